/- What the walk of seq.Confirm leans on. -/
import Derived.Test.YtngbkagamhakiaaQ17
import Derived.Test.YtngbkagamhakiaaL17
import Derived.Test.YtngbkagamhakiaaH18
import Derived.RangeFuncNested
import Derived.Laws.EntriesVeiled
namespace Go.Proofs.Ytngbkagamhakiaa.Q
open Go.RowKit Go.Proofs.YtngbkagamhakiaaW.PrintWords Go.Proofs.YtngbkagamhakiaaW.PrintLast Go.Proofs.YtngbkagamhakiaaW.PrintMore
open Go.Shelf
set_option linter.unusedVariables false
set_option linter.unusedSimpArgs false

/-! ### what the walk of a loop that collects leans on -/
theorem KpB.blk {N B : Nat} {W W' : World} {g : Nat} {o : Obj} (h : KpB N B W W') (hb : W.heap[g]? = some o) (hlt : g < N) (hne : g ≠ B) : W'.heap[g]? = some o := (h.2 g hlt hne).trans hb
theorem ownFrom_kpB {β : Type} {N B B' : Nat} {w₀ : World} (hN : N ≤ w₀.heap.size) (hB : N ≤ B') : OwnFrom B' (fun (_ : β) W => KpB N B w₀ W) :=
  fun s W W' row hs hg hr => hs.trans ⟨hg.size, fun k hk _ => hg.block k (Nat.lt_of_lt_of_le hk (Nat.le_trans hN hs.1)) (fun e => by have := (hr k e.symm).1; omega), hg.os, hg.tape, hg.output⟩
theorem boxed_appendedK {W w1 : World} {n₀ B : Nat} {t e : TypeId} {size : Nat} {v v' : Value} {k m : Nat} {xs ys : List Value} {tmp : Obj}
    (hv : Boxed W B t v) (hte : t ≠ e) (hrow : W.ownsRow n₀ e size v k xs) (hn₀ : n₀ ≤ W.heap.size) (hown' : w1.ownsRow n₀ e size v' m ys) (hgrow : (W.alloc tmp).grownBy w1 v.ownBlock) :
    Boxed w1 B t v ∧ Boxed (w1.setCell ⟨B, 0, none⟩ v') B t v' ∧ (w1.setCell ⟨B, 0, none⟩ v').ownsRow n₀ e size v' m ys ∧ KeepsOthers W (w1.setCell ⟨B, 0, none⟩ v') ∧ KpB n₀ B W (w1.setCell ⟨B, 0, none⟩ v') := by
  have hv1 : Boxed w1 B t v := (hv.alloc tmp).kept hgrow (hv.not_row hte hrow)
  have hsz : W.heap.size ≤ w1.heap.size := by have := hgrow.size; simp at this; omega
  refine ⟨hv1, hv1.set v', hown'.kept (grownBy_setCell' w1 B v') (.inr (hv1.not_row hte hown').symm),
    (hv.appended (n₀ := 0) hte (own_weaken hrow (Nat.zero_le _)) (Nat.zero_le _) (Nat.zero_le _) (own_weaken hown' (Nat.zero_le _)) hgrow).2.2.2.1, ?_, fun j hj hne => ?_, hgrow.os, hgrow.tape, hgrow.output⟩
  · have := (grownBy_setCell' w1 B v').size; omega
  · refine (Below.heap_setCell _ _ _ j (by simpa using hne)).trans ?_
    refine (hgrow.block j (by simp; omega) (fun e' => ?_)).trans (Below.heap_alloc W tmp j (by omega))
    have := own_base hrow j e'.symm
    omega
theorem own_slice {w : World} {base : Nat} {e : TypeId} {size n : Nat} {v : Value} {xs : List Value} (h : w.ownsRow base e size v n xs) : ∃ A m c, v = .slice A m c := by
  rcases h.2 with ⟨rfl, _⟩ | ⟨g, cap, cur, rfl, _⟩
  · exact ⟨_, _, _, rfl⟩
  · exact ⟨_, _, _, rfl⟩

theorem fin_granted {P : Nat → Prop} {w W W' Wf : World} {N1 N2 : Nat} {v1 v2 : Value} {xs1 xs2 : List Int} {on : Bool} {a0_1 a0_2 : Int}
    (h1 : W.ownsRow N1 22 1 v1 xs1.length (xs1.map (Value.int .u64))) (h2 : W'.ownsRow N2 22 1 v2 xs2.length (xs2.map (Value.int .u64)))
    (hm1 : ∀ k, N1 ≤ k → k < W.heap.size → (∃ c, W.heap[k]? = some (.cells c 22 (0, 0))) → Wf.heap[k]? = W.heap[k]?)
    (hm2 : ∀ k, N2 ≤ k → k < W'.heap.size → (∃ c, W'.heap[k]? = some (.cells c 22 (0, 0))) → Wf.heap[k]? = W'.heap[k]?)
    (hN1 : w.heap.size ≤ N1) (hN2 : W.heap.size ≤ N2) (hN3 : w.heap.size ≤ N2) (hb : Below w.heap.size w Wf) :
    ∃ v3_ v4_ : Value, Ending.returned (.tuple #[.agg #[.bool on, .int .u64 a0_1, .int .u64 a0_2, v2], v1, .int .i64 0]) = .returned (.tuple #[.agg #[.bool on, .int .u64 a0_1, .int .u64 a0_2, v3_], v4_, .int .i64 0]) ∧ Kd.V (Kd.int .u64) 22 Wf w.heap.size (fun k_ => ((P k_ ∨ w.heap.size ≤ k_) ∧ some k_ ≠ v4_.ownBlock)) v3_ xs2 ∧ Kd.R (Kd.int .u64) 22 Wf w.heap.size (fun _ => True) v4_ xs1 ∧ Below w.heap.size w Wf := by
  have hf1 : Wf.ownsRow N1 22 1 v1 xs1.length (xs1.map (Value.int .u64)) := own_move h1 (fun k hk => hm1 k (own_base h1 k hk) (own_lt h1 k hk) (own_typed h1 k hk))
  have hf2 : Wf.ownsRow N2 22 1 v2 xs2.length (xs2.map (Value.int .u64)) := own_move h2 (fun k hk => hm2 k (own_base h2 k hk) (own_lt h2 k hk) (own_typed h2 k hk))
  refine ⟨_, _, rfl, ?_, ?_, hb⟩
  · have hR : Kd.R (Kd.int .u64) 22 Wf N2 (fun k => N2 ≤ k) v2 xs2 := Kd.R_of_own hf2 (fun k hk => own_base hf2 k hk)
    exact Kd.V_mono (Kd.R_V hR) (fun k hk => ⟨Or.inr (Nat.le_trans hN3 hk), fun e => by have := own_lt h1 k e.symm; omega⟩)
  · exact Kd.R_lower (Kd.R_of_own hf1 (fun _ _ => trivial)) hN1

theorem drew_eq_drewN (w : World) : w.drew.heap = w.heap := rfl
theorem below_put {B : Nat} {w W : World} (h : Below B w W) (l : Nat) (o : Obj) (hl : B ≤ l) : Below B w (W.putObj l o) :=
  ⟨h.os, h.tape, h.output, by simp; exact h.size, fun k hk => (World.putObj_heap_other (by omega)).trans (h.block k hk)⟩
theorem below_kpB {N B : Nat} {w W W' : World} (h : Below w.heap.size w W) (hk : KpB N B W W') (hN : w.heap.size ≤ N) (hB : w.heap.size ≤ B) : Below w.heap.size w W' :=
  ⟨hk.3.1.trans h.os, hk.3.2.1.trans h.tape, hk.3.2.2.trans h.output, Nat.le_trans h.size hk.1, fun k hlt => (hk.2 k (by omega) (by omega)).trans (h.block k hlt)⟩
/-- The ten blocks that lie when the first loop begins. -/
theorem ten (w : World) (o0 o1 o2 o3 o4 o5 o6 o7 o8 o9 : Obj) : ∃ W, W = (((((((((w.alloc o0).alloc o1).alloc o2).alloc o3).alloc o4).alloc o5).alloc o6).alloc o7).alloc o8).alloc o9 ∧ W.heap.size = w.heap.size + 10 ∧
    W.heap[w.heap.size]? = some o0 ∧ W.heap[w.heap.size + 1]? = some o1 ∧ W.heap[w.heap.size + 1 + 1]? = some o2 ∧ W.heap[w.heap.size + 1 + 1 + 1]? = some o3 ∧ W.heap[w.heap.size + 1 + 1 + 1 + 1]? = some o4 ∧ W.heap[w.heap.size + 1 + 1 + 1 + 1 + 1]? = some o5 ∧ W.heap[w.heap.size + 1 + 1 + 1 + 1 + 1 + 1]? = some o6 ∧ W.heap[w.heap.size + 1 + 1 + 1 + 1 + 1 + 1 + 1]? = some o7 ∧ W.heap[w.heap.size + 1 + 1 + 1 + 1 + 1 + 1 + 1 + 1]? = some o8 ∧ W.heap[w.heap.size + 1 + 1 + 1 + 1 + 1 + 1 + 1 + 1 + 1]? = some o9 ∧ Below w.heap.size w W := by
  refine ⟨_, rfl, ?_, ?_, ?_, ?_, ?_, ?_, ?_, ?_, ?_, ?_, ?_, ?_⟩
  · simp
  · repeat (first | exact blk_new _ _ | refine blk_alloc ?_ _)
  all_goals try (have key := fun (X : World) (o : Obj) => blk_new X o)
  · repeat (refine Eq.trans ?_ (rfl : some o1 = some o1)); iterate 8 refine blk_alloc ?_ _
    have h := key (w.alloc o0) o1; simpa using h
  · iterate 7 refine blk_alloc ?_ _
    have h := key ((w.alloc o0).alloc o1) o2; simpa using h
  · iterate 6 refine blk_alloc ?_ _
    have h := key (((w.alloc o0).alloc o1).alloc o2) o3; simpa using h
  · iterate 5 refine blk_alloc ?_ _
    have h := key ((((w.alloc o0).alloc o1).alloc o2).alloc o3) o4; simpa using h
  · iterate 4 refine blk_alloc ?_ _
    have h := key (((((w.alloc o0).alloc o1).alloc o2).alloc o3).alloc o4) o5; simpa using h
  · iterate 3 refine blk_alloc ?_ _
    have h := key ((((((w.alloc o0).alloc o1).alloc o2).alloc o3).alloc o4).alloc o5) o6; simpa using h
  · iterate 2 refine blk_alloc ?_ _
    have h := key (((((((w.alloc o0).alloc o1).alloc o2).alloc o3).alloc o4).alloc o5).alloc o6) o7; simpa using h
  · iterate 1 refine blk_alloc ?_ _
    have h := key ((((((((w.alloc o0).alloc o1).alloc o2).alloc o3).alloc o4).alloc o5).alloc o6).alloc o7) o8; simpa using h
  · have h := key (((((((((w.alloc o0).alloc o1).alloc o2).alloc o3).alloc o4).alloc o5).alloc o6).alloc o7).alloc o8) o9; simpa using h
  · iterate 10 apply below_alloc
    exact Below.refl _ _
end Go.Proofs.Ytngbkagamhakiaa.Q
