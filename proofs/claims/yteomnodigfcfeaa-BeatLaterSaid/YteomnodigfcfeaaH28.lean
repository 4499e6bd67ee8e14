/- The queue's own methods: Len, Less, Swap. -/
import Derived.Test.YteomnodigfcfeaaQ0
import Derived.WalkSpells
import Derived.RegionCalls
namespace Go.Proofs.Yteomnodigfcfeaa.Q
open Go.RowKit Go.Proofs.YteomnodigfcfeaaW.PrintWords Go.Proofs.YteomnodigfcfeaaW.PrintLast Go.Proofs.YteomnodigfcfeaaW.PrintMore
set_option linter.unusedVariables false
set_option linter.unusedSimpArgs false

/-- What lies stays, but in the blocks of S. -/
structure Fr (S : Nat → Prop) (w W : World) : Prop where
  size : w.heap.size ≤ W.heap.size
  block : ∀ k, k < w.heap.size → ¬ S k → W.heap[k]? = w.heap[k]?
  same : W.os = w.os ∧ W.tape = w.tape ∧ W.output = w.output
section
variable {S S' : Nat → Prop} {w W W2 : World}
theorem Fr.refl (S : Nat → Prop) (w : World) : Fr S w w := ⟨Nat.le_refl _, fun _ _ _ => rfl, rfl, rfl, rfl⟩
theorem Fr.trans (h : Fr S w W) (k : Fr S W W2) : Fr S w W2 := ⟨Nat.le_trans h.1 k.1, fun i hi hs => (k.2 i (Nat.lt_of_lt_of_le hi h.1) hs).trans (h.2 i hi hs), k.3.1.trans h.3.1, k.3.2.1.trans h.3.2.1, k.3.2.2.trans h.3.2.2⟩
theorem Fr.mono (h : Fr S w W) (hs : ∀ k, S k → S' k) : Fr S' w W := ⟨h.1, fun i hi hn => h.2 i hi (fun hk => hn (hs i hk)), h.3⟩
theorem Fr.of_below (S : Nat → Prop) (h : Below w.heap.size w W) : Fr S w W := ⟨h.size, fun i hi _ => h.block i hi, h.os, h.tape, h.output⟩
theorem Fr.below (h : Fr S w W) (hb : Below W.heap.size W W2) : Fr S w W2 := h.trans (Fr.of_below S hb)
theorem Fr.drewN (h : Fr S w W) (m : Nat) : Fr S w (W.drewN m) := ⟨h.1, h.2, h.3⟩
theorem Fr.drew (h : Fr S w W) : Fr S w W.drew := ⟨h.1, h.2, h.3⟩
theorem Fr.set (h : Fr S w W) {p : Addr} (hp : S p.block) (u : Value) : Fr S w (W.setCell p u) :=
  ⟨by simp; exact h.1, fun i hi hs => (Below.heap_setCell W p u i (fun e => hs (e ▸ hp))).trans (h.2 i hi hs), h.3⟩
theorem Fr.toBelow {N : Nat} (h : Fr S w W) (hN : N ≤ w.heap.size) (hs : ∀ k, S k → N ≤ k) : Below N w W := ⟨h.3.1, h.3.2.1, h.3.2.2, h.1, fun k hk => h.2 k (Nat.lt_of_lt_of_le hk hN) (fun hS => by have := hs k hS; omega)⟩
theorem Fr.blk (h : Fr S w W) {g : Nat} {o : Obj} (hb : w.heap[g]? = some o) (hne : ¬ S g) : W.heap[g]? = some o := (h.2 g (blk_lt hb) hne).trans hb
end
/-- A row of dues lies in block g, from its first cell on. -/
def Row (w : World) (g : Nat) (l : List S24) : Prop :=
  ∃ cs : Array Value, w.heap[g]? = some (.cells cs 24 (0, 0)) ∧ l.length ≤ 9223372036854775807 ∧ ∀ (i : Nat) (h : i < l.length), cs[i * 2]? = some (.int .i64 l[i].f0) ∧ cs[i * 2 + 1]? = some (.int .i64 l[i].f1)
def ltD (a b : S24) : Bool := if a.f0 = b.f0 then decide (a.f1 < b.f1) else decide (a.f0 < b.f0)

theorem Row.cells {w : World} {g : Nat} {l : List S24} (h : Row w g l) {i : Nat} (hi : i < l.length) : w.cell? ⟨g, i * 2, none⟩ = some (.int .i64 l[i].f0) ∧ w.cell? ⟨g, i * 2 + 1, none⟩ = some (.int .i64 l[i].f1) := by
  obtain ⟨cs, hb, _, hc⟩ := h
  exact ⟨(blk_cell hb _).trans (hc i hi).1, (blk_cell hb _).trans (hc i hi).2⟩

theorem Row.drew {w : World} {g : Nat} {l : List S24} (h : Row w g l) : Row w.drew g l := h
theorem Row.of_fr {S : Nat → Prop} {w W : World} {g : Nat} {l : List S24} (h : Row w g l) (hf : Fr S w W) (hn : ¬ S g) : Row W g l := by
  obtain ⟨cs, hb, hm, hc⟩ := h
  exact ⟨cs, hf.blk hb hn, hm, hc⟩
theorem Row.lt {w : World} {g : Nat} {l : List S24} (h : Row w g l) : g < w.heap.size := by
  obtain ⟨cs, hb, _⟩ := h
  exact blk_lt hb
theorem Row.frozen {w : World} {g : Nat} {l : List S24} (h : Row w g l) (i : Nat) : w.frozen? ⟨g, i, none⟩ = false := by
  obtain ⟨cs, hb, _⟩ := h
  exact blk_frozen hb i
theorem Row.put {w : World} {g : Nat} {l : List S24} (h : Row w g l) (i : Nat) (x : S24) : Row ((w.setCell ⟨g, i * 2, none⟩ (.int .i64 x.f0)).setCell ⟨g, i * 2 + 1, none⟩ (.int .i64 x.f1)) g (l.set i x) := by
  obtain ⟨cs, hb, hm, hc⟩ := h
  refine ⟨_, blk_put (blk_put hb _ _ rfl) _ _ rfl, by simpa using hm, fun j hj => ?_⟩
  rw [List.length_set] at hj
  obtain ⟨h0, h1⟩ := hc j hj
  have hl0 := (Array.getElem?_eq_some_iff.1 h0).1
  have hl1 := (Array.getElem?_eq_some_iff.1 h1).1
  by_cases e : i = j
  · subst e
    simp [Array.getElem?_setIfInBounds, hl0, hl1]
  · have e1 : i * 2 ≠ j * 2 := by omega
    have e2 : i * 2 ≠ j * 2 + 1 := by omega
    have e3 : i * 2 + 1 ≠ j * 2 := by omega
    have e4 : i * 2 + 1 ≠ j * 2 + 1 := by omega
    rw [List.getElem_set_ne e]
    rw [Array.getElem?_setIfInBounds_ne e3, Array.getElem?_setIfInBounds_ne e1, Array.getElem?_setIfInBounds_ne e4, Array.getElem?_setIfInBounds_ne e2]
    exact ⟨h0, h1⟩
theorem Row.take {w : World} {g : Nat} {l : List S24} (h : Row w g l) (n : Nat) : Row w g (l.take n) := by
  obtain ⟨cs, hb, hm, hc⟩ := h
  refine ⟨cs, hb, by rw [List.length_take]; omega, fun j hj => ?_⟩
  rw [List.length_take] at hj
  have := hc j (by omega)
  rw [List.getElem_take]
  exact this

theorem queue_Len.calls (A : Option Addr) (n c : Nat) (w : World) :
    Calls Try.prog 35 #[.slice A n c] w fun e w' => e = .returned (.int .i64 n) ∧ w' = w := by
  go_enter Try.func35, Try.ntmps35
  go_wp2
  go_ret
  exact ⟨rfl, rfl⟩

set_option maxHeartbeats 8000000 in
set_option maxRecDepth 100000 in
theorem queue_Less.calls (g n c : Nat) (l : List S24) (i k : Nat) (w : World) (hR : Row w g l) (hn : n = l.length) (hi : i < n) (hk : k < n) :
    Calls Try.prog 28 #[.slice (some ⟨g, 0, none⟩) n c, .int .i64 i, .int .i64 k] w fun e w' => e = .returned (.bool (ltD (l[i]'(by omega)) (l[k]'(by omega)))) ∧ Drawn0 w w' := by
  obtain ⟨hi0, hi1⟩ := hR.cells (by omega : i < l.length)
  obtain ⟨hk0, hk1⟩ := hR.cells (by omega : k < l.length)
  have hu24 := Try.underlying24
  generalize l[i]'(by omega) = a at *
  generalize l[k]'(by omega) = b at *
  have q1 : (0 : Int) ≤ (i : Int) := by omega
  have q2 : (i : Int) < (n : Int) := by omega
  have q3 : (0 : Int) ≤ (k : Int) := by omega
  have q4 : (k : Int) < (n : Int) := by omega
  clear hR hn
  unfold ltD
  by_cases h0 : a.f0 = b.f0
  · have h0b : (a.f0 == b.f0) = true := by simpa using h0
    have h0c : (a.f0 != b.f0) = false := by simpa using h0
    rw [if_pos h0]
    clear h0
    go_enter Try.func28, Try.ntmps28
    go_wp2
    go_region
    all_goals go_wp2
    all_goals go_region
    all_goals go_wp2
    all_goals go_ret
    all_goals exact ⟨rfl, ⟨2, rfl⟩⟩
  · have h0b : (a.f0 == b.f0) = false := by simpa using h0
    have h0c : (a.f0 != b.f0) = true := by simpa using h0
    rw [if_neg h0]
    clear h0
    go_enter Try.func28, Try.ntmps28
    go_wp2
    go_region
    all_goals go_wp2
    all_goals go_region
    all_goals go_wp2
    all_goals go_ret
    all_goals exact ⟨rfl, ⟨2, rfl⟩⟩

def swapD (l : List S24) (i k : Nat) : List S24 := (l.set i (l.getD k z24)).set k (l.getD i z24)
theorem swapD_length (l : List S24) (i k : Nat) : (swapD l i k).length = l.length := by simp [swapD]

set_option maxHeartbeats 8000000 in
set_option maxRecDepth 100000 in
theorem queue_Swap.calls (g n c : Nat) (l : List S24) (i k : Nat) (w : World) (hR : Row w g l) (hn : n = l.length) (hi : i < n) (hk : k < n) :
    Calls Try.prog 55 #[.slice (some ⟨g, 0, none⟩) n c, .int .i64 i, .int .i64 k] w fun e w' => e = .returned (.tuple #[]) ∧ Row w' g (swapD l i k) ∧ Fr (fun x => x = g) w w' := by
  obtain ⟨hi0, hi1⟩ := hR.cells (by omega : i < l.length)
  obtain ⟨hk0, hk1⟩ := hR.cells (by omega : k < l.length)
  have hu24 := Try.underlying24
  have ei : l.getD i z24 = l[i]'(by omega) := by simp [show i < l.length by omega]
  have ek : l.getD k z24 = l[k]'(by omega) := by simp [show k < l.length by omega]
  unfold swapD
  rw [ei, ek]
  generalize l[i]'(by omega) = a at *
  generalize l[k]'(by omega) = b at *
  have q1 : (0 : Int) ≤ (i : Int) := by omega
  have q2 : (i : Int) < (n : Int) := by omega
  have q3 : (0 : Int) ≤ (k : Int) := by omega
  have q4 : (k : Int) < (n : Int) := by omega
  have HR := Aside0.mk hR
  obtain ⟨cs, hb, _, _⟩ := hR
  have hfr : ∀ j, w.frozen? ⟨g, j, none⟩ = false := fun j => blk_frozen hb j
  have hs1 : (w.setCell ⟨g, i * 2, none⟩ (.int .i64 b.f0)).cell? ⟨g, k * 2, none⟩ = some (.int .i64 b.f0) := by
    by_cases e : i * 2 = k * 2
    · rw [e]
      have hl := (Array.getElem?_eq_some_iff.1 ((blk_cell hb _).symm.trans hk0)).1
      exact (blk_cell (blk_put hb _ _ rfl) _).trans (by simp [Array.getElem?_setIfInBounds, hl])
    · exact (blk_cell (blk_put hb _ _ rfl) _).trans (by rw [Array.getElem?_setIfInBounds_ne e]; exact (blk_cell hb _).symm.trans hk0)
  have hs2 : ((w.setCell ⟨g, i * 2, none⟩ (.int .i64 b.f0)).setCell ⟨g, i * 2 + 1, none⟩ (.int .i64 b.f1)).cell? ⟨g, k * 2 + 1, none⟩ = some (.int .i64 b.f1) := by
    by_cases e : i * 2 + 1 = k * 2 + 1
    · rw [e]
      have hl := (Array.getElem?_eq_some_iff.1 ((blk_cell hb _).symm.trans hk1)).1
      exact (blk_cell (blk_put (blk_put hb _ _ rfl) _ _ rfl) _).trans (by simp [Array.getElem?_setIfInBounds, hl])
    · exact (blk_cell (blk_put (blk_put hb _ _ rfl) _ _ rfl) _).trans (by rw [Array.getElem?_setIfInBounds_ne e, Array.getElem?_setIfInBounds_ne (by omega)]; exact (blk_cell hb _).symm.trans hk1)
  clear hb hn ei ek
  go_enter Try.func55, Try.ntmps55
  go_wp2
  go_region
  all_goals go_wp2
  all_goals go_end0
  all_goals exact ⟨rfl, ((HR.out.put i b).put k a).drew, ((((((Fr.refl (fun x => x = g) w).set (p := ⟨g, i * 2, none⟩) rfl _).set (p := ⟨g, i * 2 + 1, none⟩) rfl _).set (p := ⟨g, k * 2, none⟩) rfl _).set (p := ⟨g, k * 2 + 1, none⟩) rfl _).drew)⟩

set_option maxHeartbeats 8000000 in
set_option maxRecDepth 100000 in
theorem queue_Pop.calls (q g n c : Nat) (l : List S24) (w : World) (hQ : w.heap[q]? = some (.cells #[.slice (some ⟨g, 0, none⟩) (n + 1) c] 55 (0, 0))) (hR : Row w g l) (hn : n + 1 = l.length) (hc : n + 1 ≤ c) :
    Calls Try.prog 56 #[.pointer (some ⟨q, 0, none⟩)] w fun e w' => e = .returned (.iface 24 (.agg #[.int .i64 (l.getD n z24).f0, .int .i64 (l.getD n z24).f1])) ∧ w'.heap[q]? = some (.cells #[.slice (some ⟨g, 0, none⟩) n c] 55 (0, 0)) ∧ Fr (fun x => x = q) w w' := by
  obtain ⟨hi0, hi1⟩ := hR.cells (by omega : n < l.length)
  have hu24 := Try.underlying24
  have ei : l.getD n z24 = l[n]'(by omega) := by simp [show n < l.length by omega]
  rw [ei]
  have hm : l.length ≤ 9223372036854775807 := by obtain ⟨_, _, h, _⟩ := hR; exact h
  generalize l[n]'(by omega) = a at *
  have hq0 : w.cell? ⟨q, 0, none⟩ = some (.slice (some ⟨g, 0, none⟩) (n + 1) c) := (blk_cell hQ 0).trans rfl
  have hqf : w.frozen? ⟨q, 0, none⟩ = false := blk_frozen hQ 0
  have q1 : (0 : Int) ≤ (n : Int) := by omega
  have q2 : (n : Int) < ((n + 1 : Nat) : Int) := by omega
  have q3 : wrap64 (n : Int) = (n : Int) := by unfold wrap64; omega
  have hq2 : (w.alloc (.cells #[.int .i64 a.f0, .int .i64 a.f1] 24)).cell? ⟨q, 0, none⟩ = some (.slice (some ⟨g, 0, none⟩) (n + 1) c) := (blk_cell (blk_alloc hQ _) 0).trans rfl
  have hqf2 : (w.alloc (.cells #[.int .i64 a.f0, .int .i64 a.f1] 24)).frozen? ⟨q, 0, none⟩ = false := blk_frozen (blk_alloc hQ _) 0
  have hbx := blk_new w (.cells #[.int .i64 a.f0, .int .i64 a.f1] 24)
  have hx0 : ((w.alloc (.cells #[.int .i64 a.f0, .int .i64 a.f1] 24)).setCell ⟨q, 0, none⟩ (.slice (some ⟨g, 0, none⟩) n c)).cell? ⟨w.heap.size, 0, none⟩ = some (.int .i64 a.f0) := (blk_cell (blk_far hbx (by have := blk_lt hQ; simp; omega) _) 0).trans rfl
  have hx1 : ((w.alloc (.cells #[.int .i64 a.f0, .int .i64 a.f1] 24)).setCell ⟨q, 0, none⟩ (.slice (some ⟨g, 0, none⟩) n c)).cell? ⟨w.heap.size, 1, none⟩ = some (.int .i64 a.f1) := (blk_cell (blk_far hbx (by have := blk_lt hQ; simp; omega) _) 1).trans rfl
  clear hbx
  have q4 : (n : Int) ≤ (c : Int) := by omega
  have HQ := Aside0.mk hQ
  clear hQ hR hn hm ei
  go_enter Try.func56, Try.ntmps56
  go_wp2
  go_ret
  exact ⟨rfl, blk_put (blk_alloc HQ.out _) 0 _ rfl, (Fr.of_below (fun x => x = q) (below_alloc (Below.refl _ _) _)).set (p := ⟨q, 0, none⟩) rfl _⟩

end Go.Proofs.Yteomnodigfcfeaa.Q
