/- line.First: what it computes, and that its call does so. -/
import Derived.Test.YtpfaidejbnbelaaQ0
import Derived.Test.YtpfaidejbnbelaaC
namespace Go.Proofs.Ytpfaidejbnbelaa.Q
open Go.RowKit Go.Proofs.YtpfaidejbnbelaaW.PrintWords Go.Proofs.YtpfaidejbnbelaaW.PrintLast Go.Proofs.YtpfaidejbnbelaaW.PrintMore
set_option linter.unusedVariables false
set_option linter.unusedSimpArgs false

theorem cut1 {α : Type} {d : Kd α} {W : World} {ok : Nat → Prop} {x : α} (r : List α) (ad : Addr) (h : Kd.F d W ok (if (x :: r).length = 1 then some ad else (some ad).map (·.add (1 * d.sz))) ((x :: r).drop 1).length ((x :: r).drop 1)) (h1 : d.sz = 1 := by rfl) :
    Kd.F d W ok (if r = [] then some ad else some { block := ad.block, off := ad.off + 1 }) r.length r := by
  rw [h1] at h
  cases r with
  | nil => simpa using h
  | cons y r => simpa [Addr.add] using h

def line_First.f (l0 : List Int) : Option (Int × List Int × Bool) := some (match l0 with | [] => (0, [], false) | x :: r => (x, r, true))

set_option maxHeartbeats 8000000 in
set_option maxRecDepth 100000 in
theorem line_First.strong (ok : Nat → Prop) (A0 : Option Addr) (c0 : Nat) (l0 : List Int) (r1 : Int) (r2 : List Int) (r3 : Bool) (w : World) (hs0 : Kd.V (Kd.int .i64) 3 w w.heap.size ok (.slice A0 l0.length c0) l0) (h : line_First.f l0 = some (r1, r2, r3)) :
    Calls Try.prog 14 #[.slice A0 l0.length c0] w fun e w' => ∃ v0_ : Value, e = .returned (.tuple #[.int .i64 r1, v0_, .bool r3]) ∧ Kd.V (Kd.int .i64) 3 w w.heap.size ok v0_ r2 ∧ Drawn0 w w' := by
  cases l0 with
  | nil =>
    simp only [line_First.f, Option.some.injEq, Prod.mk.injEq] at h
    obtain ⟨rfl, rfl, rfl⟩ := h
    have HS := Aside0.mk hs0
    clear hs0
    go_enter Try.func14, Try.ntmps14
    go_wp2
    go_ret3
    exact ⟨_, rfl, HS.out, Drawn0.refl _⟩
  | cons x r =>
    simp only [line_First.f, Option.some.injEq, Prod.mk.injEq] at h
    obtain ⟨rfl, rfl, rfl⟩ := h
    have HV := Kd.V_at hs0
    have hcl : (x :: r).length ≤ c0 := HV.2.1
    have hm : (x :: r).length ≤ 9223372036854775807 := Kd.F_max HV.2.2
    obtain ⟨ad, e1, hx⟩ := Kd.at_int (Kd.F_now HV.2.2) 0 (by omega) (by simp)
    subst e1
    have HS := Aside0.mk hs0
    clear hs0 HV
    rw [List.length_cons] at hcl hm
    have hz : ((r.length : Int) + 1 == 0) = false := beq_eq_false_iff_ne.2 (by omega)
    have hx0 : w.cell? (ad.add 0) = some (.int .i64 x) := hx
    rw [Addr.add_zero'] at hx0
    clear hx
    have hq : (0 : Int) < (r.length : Int) + 1 := by omega
    have hq1 : (1 : Int) ≤ (r.length : Int) + 1 := by omega
    obtain ⟨A1, hA1⟩ : ∃ A1 : Option Addr, (if r = [] then some ad else some { block := ad.block, off := ad.off + 1 }) = A1 := ⟨_, rfl⟩
    go_enter Try.func14, Try.ntmps14
    go_wp2
    go_quiet (fail)
    go_wp2
    go_ret3
    refine ⟨_, rfl, ?_, Drawn0.step (Drawn0.refl _) _⟩
    have hF := Kd.F_cut (m := 1) (c := (x :: r).length) (Kd.V_at HS.out).2.2 (by simp) (Nat.le_refl _)
    have hF1 := cut1 r ad hF
    rw [hA1] at hF1
    exact Kd.V_mk (Nat.le_refl _) hF1

theorem line_First.calls (P0_ : Nat → Prop) (A0 : Option Addr) (c0 : Nat) (l0 : List Int) (r1 : Int) (r2 : List Int) (r3 : Bool) (w : World) (hs0 : Kd.V (Kd.int .i64) 3 w w.heap.size (fun k_ => P0_ k_) (.slice A0 l0.length c0) l0) (h : line_First.f l0 = some (r1, r2, r3)) :
    Calls Try.prog 14 #[.slice A0 l0.length c0] w fun e w' => ∃ v0_ : Value, e = .returned (.tuple #[.int .i64 r1, v0_, .bool r3]) ∧ Kd.V (Kd.int .i64) 3 w' w.heap.size (fun k_ => (P0_ k_ ∨ w.heap.size ≤ k_)) v0_ r2 ∧ Below w.heap.size w w' :=
  (line_First.strong P0_ A0 c0 l0 r1 r2 r3 w hs0 h).mono fun e w' ⟨v, he, hv, hd⟩ => ⟨v, he, Kd.V_below (Kd.V_mono hv (fun _ h => Or.inl h)) hd.below, hd.below⟩
end Go.Proofs.Ytpfaidejbnbelaa.Q
