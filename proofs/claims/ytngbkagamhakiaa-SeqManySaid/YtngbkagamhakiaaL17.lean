/- Plain laws: what a search for a number comes to. -/
import Derived.Test.YtngbkagamhakiaaQ17
namespace Go.Proofs.Ytngbkagamhakiaa.Q
open Go.RowKit Go.Proofs.YtngbkagamhakiaaW.PrintWords Go.Proofs.YtngbkagamhakiaaW.PrintLast Go.Proofs.YtngbkagamhakiaaW.PrintMore
set_option linter.unusedVariables false
set_option linter.unusedSimpArgs false

theorem wrap_nat {n m : Nat} (h : n < m) (hm : m ≤ 9223372036854775807) : wrap64 ((n : Int) + 1) = ((n + 1 : Nat) : Int) := by unfold wrap64; omega
theorem rd_nat (l : List Int) (n : Nat) (h : n < l.length) : rd l (n : Int) = l[n] := by simp [rd, h]

/-- The first place of a, or -1. -/
def idx (l : List Int) (a : Int) : Int := if a ∈ l then (l.idxOf a : Int) else -1
theorem idx_range (l : List Int) (a : Int) : -1 ≤ idx l a ∧ idx l a < (l.length : Int) := by
  unfold idx
  split
  · rename_i h; have := List.idxOf_lt_length_of_mem h; omega
  · omega
theorem idx_neg (l : List Int) (a : Int) : (0 ≤ idx l a) ↔ a ∈ l := by
  unfold idx
  split <;> rename_i h
  · simp [h]
  · simp [h]
theorem idx_neg1 (l : List Int) (a : Int) : (idx l a = -1) ↔ a ∉ l := by
  have := idx_neg l a; have h2 := idx_range l a
  constructor
  · intro h hm; have := this.2 hm; omega
  · intro h; by_cases h0 : 0 ≤ idx l a
    · exact absurd (this.1 h0) h
    · omega

theorem index_l0 (l : List Int) (a : Int) (hn : l.length ≤ 9223372036854775807) (d : Nat) : ∀ (k n : Nat), n ≤ l.length → l.length - n = d → d < k →
    slices_Index_uint64_uint64.l0 k l a (l.length : Int) (n : Int) = some (if a ∈ l.drop n then ((n + (l.drop n).idxOf a : Nat) : Int) else -1) := by
  induction d with
  | zero =>
    intro k n h1 hd hk
    obtain ⟨k, rfl⟩ : ∃ m, k = m + 1 := ⟨k - 1, by omega⟩
    have : n = l.length := by omega
    subst this
    simp only [slices_Index_uint64_uint64.l0]
    rw [if_neg (by omega)]
    simp
  | succ d ih =>
    intro k n h1 hd hk
    obtain ⟨k, rfl⟩ : ∃ m, k = m + 1 := ⟨k - 1, by omega⟩
    have hlt : n < l.length := by omega
    have hdr : l.drop n = l[n] :: l.drop (n + 1) := List.drop_eq_getElem_cons hlt
    simp only [slices_Index_uint64_uint64.l0]
    rw [if_pos (by omega), if_pos (by omega), if_pos (by omega), rd_nat l n hlt, wrap_nat hlt hn, hdr]
    have ih' := ih k (n + 1) (by omega) (by omega) (by omega)
    generalize l[n] = y
    generalize l.drop (n + 1) = t at ih' ⊢
    by_cases e : a = y
    · subst e
      simp
    · rw [if_neg e, ih']
      have e' : (y == a) = false := by simp; exact fun h => e h.symm
      simp only [List.mem_cons, e, false_or, List.idxOf_cons, e', cond_false]
      split
      · congr 1; omega
      · rfl

theorem contains_mem (l : List Int) (a : Int) (hn : l.length ≤ 9223372036854775807) (k : Nat) (hk : l.length < k) : slices_Contains_uint64_uint64.f k l a = some (decide (a ∈ l)) := by
  unfold slices_Contains_uint64_uint64.f slices_Index_uint64_uint64.f
  have h := index_l0 l a hn l.length k 0 (by omega) (by omega) hk
  rw [Int.natCast_zero] at h
  rw [h]
  by_cases hm : a ∈ l
  · simp [hm]
  · simp [hm]
end Go.Proofs.Ytngbkagamhakiaa.Q
