/- line.Drop: what it computes, and that its call does so. -/
import Derived.Test.YtpfaidejbnbelaaH21
import Derived.Test.YtpfaidejbnbelaaH22
namespace Go.Proofs.Ytpfaidejbnbelaa.Q
open Go.RowKit Go.Proofs.YtpfaidejbnbelaaW.PrintWords Go.Proofs.YtpfaidejbnbelaaW.PrintLast Go.Proofs.YtpfaidejbnbelaaW.PrintMore
set_option linter.unusedVariables false
set_option linter.unusedSimpArgs false

def line_Drop.f (l0 : List Int) (a1 : Int) : Option (List Int × Bool) :=
  if l0.length ≤ 17592186044416 then some (l0.filter (fun x => !(x == a1)), decide ((l0.filter (fun x => !(x == a1))).length < l0.length)) else none

set_option maxHeartbeats 8000000 in
set_option maxRecDepth 100000 in
theorem line_Drop1.calls (x who : Int) (B : Nat) (W : World) (hb : W.heap[B]? = some (.cells #[.int .i64 who] 3 (0, 0))) :
    Calls Try.prog 23 (#[.int .i64 x] ++ #[.pointer (some ⟨B, 0, none⟩)]) W fun e w' => e = .returned (.bool (x == who)) ∧ Drawn0 W w' := by
  have hc : W.cell? ⟨B, 0, none⟩ = some (.int .i64 who) := (blk_cell hb 0).trans rfl
  show Calls Try.prog 23 #[.int .i64 x, .pointer (some ⟨B, 0, none⟩)] W _
  clear hb
  go_enter Try.func23, Try.ntmps23
  go_wp2
  go_ret
  exact ⟨rfl, Drawn0.refl _⟩

set_option maxHeartbeats 8000000 in
set_option maxRecDepth 100000 in
theorem line_Drop.calls (A0 : Option Addr) (c0 : Nat) (l0 : List Int) (a1 : Int) (r1 : List Int) (r2 : Bool) (w : World) (hr0 : Kd.C (Kd.int .i64) w A0 l0.length l0) (hc0 : l0.length ≤ c0) (h : line_Drop.f l0 a1 = some (r1, r2)) :
    Calls Try.prog 10 #[.slice A0 l0.length c0, .int .i64 a1] w fun e w' => ∃ v0_ : Value, e = .returned (.tuple #[v0_, .bool r2]) ∧ Kd.R (Kd.int .i64) 3 w' w.heap.size (fun _ => True) v0_ r1 ∧ Below w.heap.size w w' := by
  have hreach : l0.length ≤ 17592186044416 := by
    unfold line_Drop.f at h
    by_cases hr : l0.length ≤ 17592186044416
    · exact hr
    · rw [if_neg hr] at h; cases h
  unfold line_Drop.f at h
  rw [if_pos hreach] at h
  obtain ⟨h1, h2⟩ := Prod.mk.inj (Option.some.inj h)
  rw [h1] at h2
  have H1 := Aside0.mk h1
  have H2 := Aside0.mk h2
  have HC := Aside0.mk hr0
  have eg : ∀ args w, (callFunc 23 args).run Try.prog w = .ok (.enter 23 args) w := enters_at Try.func23 (by kernel_rfl) rfl
  have EG := Aside0.mk eg
  clear h h1 h2 hr0 eg
  go_enter Try.func10, Try.ntmps10
  go_wp2_with fail
  refine (slices_Clone.calls A0 c0 l0 _ (Kd.C_alloc HC.out _) hreach).mono ?_
  rintro e w1 ⟨v, rfl, hR, hB⟩
  have HBX := Aside0.mk (blk_below (blk_new w (.cells #[.int .i64 a1] 3 (0, 0))) hB)
  go_wp2_with fail
  refine (slices_DeleteFunc.calls (fun x => x == a1) 23 #[.pointer (some ⟨w.heap.size, 0, none⟩)] EG.out (fun W => W.heap[w.heap.size]? = some (.cells #[.int .i64 a1] 3 (0, 0))) v
    (fun W W' hsz hk hb => (hk _ (fun e => by have := Kd.R_base hR _ e.symm; simp at this; omega) (blk_lt hb)).trans hb) (fun W x hb => line_Drop1.calls x a1 w.heap.size W hb) _ _ l0 w1 hR HBX.out).mono ?_
  rintro e w2 ⟨v2, rfl, hR2, hG⟩
  have hl := H1.out
  have HR2 := Aside0.mk hR2
  rw [hl] at HR2
  obtain ⟨A2, c2, rfl⟩ := Kd.R_slice HR2.out
  have hB2 := ((below_alloc (Below.refl _ w) (.cells #[.int .i64 a1] 3 (0, 0))).trans (hB.mono (by simp))).grown hG (by have := hB.size; simp at this; omega) (fun k hk => by have := Kd.R_base hR _ hk; simp at this; omega)
  have HB2 := Aside0.mk hB2
  clear hR2 hl hG hR hB hB2
  go_wp2
  go_ret2
  refine ⟨_, ?_, Kd.R_lower HR2.out (by simp), HB2.out⟩
  simp only [← H2.out]
  rfl
end Go.Proofs.Ytpfaidejbnbelaa.Q
