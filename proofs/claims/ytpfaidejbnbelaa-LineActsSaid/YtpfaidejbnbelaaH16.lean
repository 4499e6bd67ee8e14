/- interchangeref14.First: what it computes, and that its call does so. -/
import Derived.Test.YtpfaidejbnbelaaH14
namespace Go.Proofs.Ytpfaidejbnbelaa.Q
open Go.RowKit Go.Proofs.YtpfaidejbnbelaaW.PrintWords Go.Proofs.YtpfaidejbnbelaaW.PrintLast Go.Proofs.YtpfaidejbnbelaaW.PrintMore
set_option linter.unusedVariables false
set_option linter.unusedSimpArgs false

def interchangeref14_First.f (l0 : List Int) : Option (Int × List Int × Bool) := if l0.length ≤ 17592186044416 then some (match l0 with | [] => (0, [], false) | x :: r => (x, r, true)) else none

set_option maxHeartbeats 8000000 in
set_option maxRecDepth 100000 in
theorem interchangeref14_First.calls (P0_ : Nat → Prop) (A0 : Option Addr) (c0 : Nat) (l0 : List Int) (r1 : Int) (r2 : List Int) (r3 : Bool) (w : World) (hs0 : Kd.V (Kd.int .i64) 3 w w.heap.size (fun k_ => P0_ k_) (.slice A0 l0.length c0) l0) (h : interchangeref14_First.f l0 = some (r1, r2, r3)) :
    Calls Try.prog 16 #[.slice A0 l0.length c0] w fun e w' => ∃ v0_ : Value, e = .returned (.tuple #[.int .i64 r1, v0_, .bool r3]) ∧ Kd.V (Kd.int .i64) 3 w' w.heap.size (fun k_ => (P0_ k_ ∨ w.heap.size ≤ k_)) v0_ r2 ∧ Below w.heap.size w w' := by
  have hreach : l0.length ≤ 17592186044416 := by
    unfold interchangeref14_First.f at h
    by_cases hr : l0.length ≤ 17592186044416
    · exact hr
    · rw [if_neg hr] at h; cases h
  unfold interchangeref14_First.f at h
  rw [if_pos hreach] at h
  cases l0 with
  | nil =>
    simp only [Option.some.injEq, Prod.mk.injEq] at h
    obtain ⟨rfl, rfl, rfl⟩ := h
    have HS := Aside0.mk hs0
    clear hs0
    go_enter Try.func16, Try.ntmps16
    go_wp2
    go_ret3
    exact ⟨_, rfl, Kd.V_mono HS.out (fun _ h => Or.inl h), Below.refl _ _⟩
  | cons x r =>
    simp only [Option.some.injEq, Prod.mk.injEq] at h
    obtain ⟨rfl, rfl, rfl⟩ := h
    have HV := Kd.V_at hs0
    have hcl : (x :: r).length ≤ c0 := HV.2.1
    have hm : (x :: r).length ≤ 9223372036854775807 := Kd.F_max HV.2.2
    obtain ⟨ad, e1, hx⟩ := Kd.at_int (Kd.F_now HV.2.2) 0 (by omega) (by simp)
    subst e1
    have HS := Aside0.mk hs0
    clear hs0 HV
    rw [List.length_cons] at hcl hm
    have hz : ((r.length : Int) + 1 == 0) = false := beq_eq_false_iff_ne.2 (by omega)
    have hx0 : w.cell? (ad.add 0) = some (.int .i64 x) := hx
    rw [Addr.add_zero'] at hx0
    clear hx
    have hq : (0 : Int) < (r.length : Int) + 1 := by omega
    have hq1 : (1 : Int) ≤ (r.length : Int) + 1 := by omega
    go_enter Try.func16, Try.ntmps16
    obtain ⟨A1, hA1⟩ : ∃ A1 : Option Addr, (if c0 = 1 then some ad else some { block := ad.block, off := ad.off + 1 }) = A1 := ⟨_, rfl⟩
    have hF := Kd.F_cut (m := 1) (c := c0) (Kd.V_at HS.out).2.2 (by simp) hcl
    have hC1 : Kd.C (Kd.int .i64) w A1 r.length r := by
      have h2 := Kd.F_now hF
      rw [show (if c0 = 1 then some ad else (some ad).map (·.add (1 * (Kd.int .i64).sz))) = A1 by rw [← hA1]; rfl] at h2
      simpa using h2
    have HC := Aside0.mk hC1
    clear hC1 hF
    have hr1 : (r.length : Int) + 1 - 1 = r.length := by omega
    go_wp2
    go_region_held3 (fun w' => w'.cell? ad = some (.int .i64 x)) (first | go_keep | (exact (hb.cell (World.block_lt_of_cell? _ _ hx0)).trans hx0))
      ((refine Kd.R_append_rows_step (Kd.int .i64) (Rr := (Kd.int .i64).K w) (w0 := w) w.heap.size rfl (.tmp 12) (.tmp 14) 22 3 (.int .i64 0) 8 rfl Try.underlying22 info3 rfl (by decide) (by decide) (.slice (some ⟨w.heap.size, 0, none⟩) 0 0) [] r A1 r.length (c0 - 1) (fun _ => True) (fun _ => False) rfl rfl ?aO ?aR (fun x cs h => h) (fun _ h => h.elim) (fun _ _ => trivial) ?aB ?aS ?aL ?_; (case aO => exact Kd.R_drew (R_lit0 _ 3 w)); (case aR => exact Kd.C_drew (Kd.C_alloc HC.out _)); (case aB => exact below_drew (below_alloc (Below.refl _ _) _)); (case aS => simp); (case aL => simp at hreach ⊢; omega); intro v1 w1 ho hb hgr hat))
    go_wp2
    go_ret3
    exact ⟨_, rfl, Kd.V_mono (Kd.R_V (Kd.R_bound ho)) (fun k hk => Or.inr hk.2.1), hb⟩
end Go.Proofs.Ytpfaidejbnbelaa.Q
