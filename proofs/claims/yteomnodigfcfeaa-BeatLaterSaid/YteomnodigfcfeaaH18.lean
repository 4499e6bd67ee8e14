/- beat.Drop: what it computes, and that its call does so. -/
import Derived.Test.YteomnodigfcfeaaH26
namespace Go.Proofs.Yteomnodigfcfeaa.Q
open Go.RowKit Go.Proofs.YteomnodigfcfeaaW.PrintWords Go.Proofs.YteomnodigfcfeaaW.PrintLast Go.Proofs.YteomnodigfcfeaaW.PrintMore
set_option linter.unusedVariables false
set_option linter.unusedSimpArgs false

def beat_Drop.f (l0 : List S24) (a1 : Int) : Option (List S24) := if l0.length ≤ 8796093022000 then some ((sortedL l0).filter fun x => !(x.f1 == a1)) else none

set_option maxHeartbeats 8000000 in
set_option maxRecDepth 100000 in
theorem beat_Drop.calls (A0 : Option Addr) (c0 : Nat) (l0 : List S24) (a1 : Int) (r : List S24) (w : World) (hr0 : Kd.C k24 w A0 l0.length l0) (hc0 : l0.length ≤ c0) (h : beat_Drop.f l0 a1 = some r) :
    Calls Try.prog 18 #[.slice A0 l0.length c0, .int .i64 a1] w fun e w' => ∃ v0_ : Value, e = .returned (v0_) ∧ Kd.R k24 24 w' w.heap.size (fun _ => True) v0_ r ∧ Below w.heap.size w w' := by
  unfold beat_Drop.f at h
  by_cases hl : l0.length ≤ 8796093022000
  · rw [if_pos hl] at h
    obtain rfl := Option.some.inj h
    have hK := beat_ordered.all A0 c0 l0 30 #[.pointer (some ⟨w.heap.size, 0, none⟩)] (fun x => x.f1 == a1) (w.alloc (.cells #[.int .i64 a1] 3)) (Kd.C_alloc hr0 _) hl eK30 (fun X x hX => by
      have hb : X.heap[w.heap.size]? = some (.cells #[.int .i64 a1] 3 (0, 0)) := (hX _ (by simp)).trans (blk_new _ _)
      exact beat_Drop1.calls x.f0 x.f1 a1 w.heap.size X ((blk_cell hb 0).trans rfl) (blk_lt hb))
    have HK := Aside0.mk hK
    clear hK hr0 h
    go_enter Try.func18, Try.ntmps18
    go_wp2_with (go_at_call 25; refine HK.out.mono ?_; rintro e w5 ⟨v1, v2, rfl, hR1, hR2, hb⟩; have HR2 := Aside0.mk (Kd.R_lower hR2 (by simp : w.heap.size ≤ (w.alloc (.cells #[.int .i64 a1] 3)).heap.size)); have HB := Aside0.mk ((below_alloc (Below.refl w.heap.size w) _).trans (hb.mono (by simp))); clear HK hR1 hR2 hb)
    go_ret
    exact ⟨_, rfl, Kd.R_mono HR2.out (fun _ _ => trivial), HB.out⟩
  · rw [if_neg hl] at h; cases h
end Go.Proofs.Yteomnodigfcfeaa.Q
