/- What the walk of tags.Settle leans on. -/
import Derived.Test.YtoljcjlflanflaaH24
import Derived.Test.YtoljcjlflanflaaH20
import Derived.RangeFuncNested
import Derived.Stop.RegionWithIn
import Derived.Laws.EntriesVeiled
import Derived.Deep.RegionHeld3
namespace Go.Proofs.Ytoljcjlflanflaa.Q
open Go.RowKit Go.Proofs.YtoljcjlflanflaaW.PrintWords Go.Proofs.YtoljcjlflanflaaW.PrintLast Go.Proofs.YtoljcjlflanflaaW.PrintMore
open Go.Shelf
set_option linter.unusedVariables false
set_option linter.unusedSimpArgs false
attribute [local go_sem] Oper.semAt_some

/-! ### what the walk of a loop that collects leans on -/
theorem KpB.blk {N B : Nat} {W W' : World} {g : Nat} {o : Obj} (h : KpB N B W W') (hb : W.heap[g]? = some o) (hlt : g < N) (hne : g ≠ B) : W'.heap[g]? = some o := (h.2 g hlt hne).trans hb
theorem ownFrom_kpB {β : Type} {N B B' : Nat} {w₀ : World} (hN : N ≤ w₀.heap.size) (hB : N ≤ B') : OwnFrom B' (fun (_ : β) W => KpB N B w₀ W) :=
  fun s W W' row hs hg hr => hs.trans ⟨hg.size, fun k hk _ => hg.block k (Nat.lt_of_lt_of_le hk (Nat.le_trans hN hs.1)) (fun e => by have := (hr k e.symm).1; omega), hg.os, hg.tape, hg.output⟩
theorem boxed_appendedK {W w1 : World} {n₀ B : Nat} {t e : TypeId} {size : Nat} {v v' : Value} {k m : Nat} {xs ys : List Value} {tmp : Obj}
    (hv : Boxed W B t v) (hte : t ≠ e) (hrow : W.ownsRow n₀ e size v k xs) (hn₀ : n₀ ≤ W.heap.size) (hown' : w1.ownsRow n₀ e size v' m ys) (hgrow : (W.alloc tmp).grownBy w1 v.ownBlock) :
    Boxed w1 B t v ∧ Boxed (w1.setCell ⟨B, 0, none⟩ v') B t v' ∧ (w1.setCell ⟨B, 0, none⟩ v').ownsRow n₀ e size v' m ys ∧ KeepsOthers W (w1.setCell ⟨B, 0, none⟩ v') ∧ KpB n₀ B W (w1.setCell ⟨B, 0, none⟩ v') := by
  have hv1 : Boxed w1 B t v := (hv.alloc tmp).kept hgrow (hv.not_row hte hrow)
  have hsz : W.heap.size ≤ w1.heap.size := by have := hgrow.size; simp at this; omega
  refine ⟨hv1, hv1.set v', hown'.kept (grownBy_setCell' w1 B v') (.inr (hv1.not_row hte hown').symm),
    (hv.appended (n₀ := 0) hte (own_weaken hrow (Nat.zero_le _)) (Nat.zero_le _) (Nat.zero_le _) (own_weaken hown' (Nat.zero_le _)) hgrow).2.2.2.1, ?_, fun j hj hne => ?_, hgrow.os, hgrow.tape, hgrow.output⟩
  · have := (grownBy_setCell' w1 B v').size; omega
  · refine (Below.heap_setCell _ _ _ j (by simpa using hne)).trans ?_
    refine (hgrow.block j (by simp; omega) (fun e' => ?_)).trans (Below.heap_alloc W tmp j (by omega))
    have := own_base hrow j e'.symm
    omega
theorem own_slice {w : World} {base : Nat} {e : TypeId} {size n : Nat} {v : Value} {xs : List Value} (h : w.ownsRow base e size v n xs) : ∃ A m c, v = .slice A m c := by
  rcases h.2 with ⟨rfl, _⟩ | ⟨g, cap, cur, rfl, _⟩
  · exact ⟨_, _, _, rfl⟩
  · exact ⟨_, _, _, rfl⟩

theorem drew_eq_drewN (w : World) : w.drew.heap = w.heap := rfl
theorem below_put {B : Nat} {w W : World} (h : Below B w W) (l : Nat) (o : Obj) (hl : B ≤ l) : Below B w (W.putObj l o) :=
  ⟨h.os, h.tape, h.output, by simp; exact h.size, fun k hk => (World.putObj_heap_other (by omega)).trans (h.block k hk)⟩
theorem below_kpB {N B : Nat} {w W W' : World} (h : Below w.heap.size w W) (hk : KpB N B W W') (hN : w.heap.size ≤ N) (hB : w.heap.size ≤ B) : Below w.heap.size w W' :=
  ⟨hk.3.1.trans h.os, hk.3.2.1.trans h.tape, hk.3.2.2.trans h.output, Nat.le_trans h.size hk.1, fun k hlt => (hk.2 k (by omega) (by omega)).trans (h.block k hlt)⟩
theorem wpIn_calm {F : Fence} {n : Nat} {P : Program} {c : Code} {Q : Exit → Act → World → Prop} {a : Act} {w : World} (h : Code.wpIn F n P c (NoPanic Q) a w) : Code.wpIn F n P c Q a w := wpIn_mono h (fun e a w => NoPanic.imp e a w)

theorem fin_granted {P : Nat → Prop} {w W W6 Wf : World} {N1 N2 : Nat} {v1 v2 : Value} {xs1 : List Int} {xs2 : List S47} {a0_0 a0_1 : Int}
    (h1 : W.ownsRow N1 22 1 v1 xs1.length (xs1.map (Value.int .u64))) (h2 : Kd.R k47 47 W6 N2 (fun _ => True) v2 xs2)
    (hm1 : ∀ k, N1 ≤ k → k < W.heap.size → (∃ c, W.heap[k]? = some (.cells c 22 (0, 0))) → Wf.heap[k]? = W.heap[k]?)
    (hm2 : ∀ k, N2 ≤ k → k < W6.heap.size → Wf.heap[k]? = W6.heap[k]?)
    (hN1 : w.heap.size ≤ N1) (hN2 : W.heap.size ≤ N2) (hN3 : w.heap.size ≤ W.heap.size) (hb : Below w.heap.size w Wf) :
    ∃ v2_ v3_ : Value, Ending.returned (.tuple #[.agg #[.int .u64 a0_0, .int .u64 a0_1, v2], v1, .int .i64 0]) = .returned (.tuple #[.agg #[.int .u64 a0_0, .int .u64 a0_1, v2_], v3_, .int .i64 0]) ∧ Kd.V k47 47 Wf w.heap.size (fun k_ => ((P k_ ∨ w.heap.size ≤ k_) ∧ some k_ ≠ v3_.ownBlock)) v2_ xs2 ∧ Kd.R (Kd.int .u64) 22 Wf w.heap.size (fun _ => True) v3_ xs1 ∧ Below w.heap.size w Wf := by
  have hf1 : Wf.ownsRow N1 22 1 v1 xs1.length (xs1.map (Value.int .u64)) := own_move h1 (fun k hk => hm1 k (own_base h1 k hk) (own_lt h1 k hk) (own_typed h1 k hk))
  refine ⟨_, _, rfl, ?_, Kd.R_lower (Kd.R_of_own hf1 (fun _ _ => trivial)) hN1, hb⟩
  have hR := Kd.R_step (Kd.R_mono (Kd.R_bound h2) (fun k hk => hk.2)) (fun k hk _ => hm2 k hk.1 hk.2.1)
  exact Kd.V_mono (Kd.R_V hR) (fun k hk => ⟨Or.inr (by have := hk.1; omega), fun e => by have := own_lt h1 k e.symm; have := hk.1; omega⟩)

theorem placeIs_lt' {l : List S47} {n : Int} (h : placeIs l n = true) : bsI l n < l.length := by
  unfold placeIs at h
  exact of_decide_eq_true (Bool.and_eq_true_iff.1 h).1
end Go.Proofs.Ytoljcjlflanflaa.Q
