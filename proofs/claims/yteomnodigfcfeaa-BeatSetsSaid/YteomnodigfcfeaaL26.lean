/- Plain laws of chapter 12: what is taken, dropped, set, due first. -/
import Derived.Test.YteomnodigfcfeaaL25
import Derived.Test.YteomnodigfcfeaaL21
import Derived.Test.YteomnodigfcfeaaQ15
namespace Go.Proofs.Yteomnodigfcfeaa.Q
open Go.RowKit Go.Proofs.Yteomnodigfcfeaa.Q Go.Proofs.YteomnodigfcfeaaW.PrintWords Go.Proofs.YteomnodigfcfeaaW.PrintLast Go.Proofs.YteomnodigfcfeaaW.PrintMore
set_option linter.unusedVariables false
set_option linter.unusedSimpArgs false

theorem rdT_nat (l : List S24) (n : Nat) (h : n < l.length) : rd_T24 l (n : Int) = l[n] := by simp [rd_T24, h]
theorem rdI_nat (l : List Int) (n : Nat) (h : n < l.length) : rd l (n : Int) = l[n] := by simp [rd, h]
theorem wrapN {n m : Nat} (h : n < m) (hm : m ≤ 9223372036854775807) : wrap64 ((n : Int) + 1) = ((n + 1 : Nat) : Int) := by unfold wrap64; omega
theorem wrapP {n : Nat} (h : 0 < n) (hm : n ≤ 9223372036854775807) : wrap64 ((n : Int) - 1) = ((n - 1 : Nat) : Int) := by unfold wrap64; omega
theorem wrapS {n m : Nat} (h : m ≤ n) (hm : n ≤ 9223372036854775807) : wrap64 ((n : Int) - (m : Int)) = ((n - m : Nat) : Int) := by unfold wrap64; omega
theorem sortedL_length (l : List S24) : (sortedL l).length = l.length := (sortedL_spec l).1.length_eq
theorem take_ok (l : List S24) (a : Int) (h : l.length ≤ 8796093022000) : beat_Take.f l a = some ((sortedL l).filter (fun x => !decide (x.f0 ≤ a)), ((sortedL l).filter fun x => decide (x.f0 ≤ a)).map (·.f1)) := by
  unfold beat_Take.f
  rw [if_pos ⟨h, by rw [sortedL_length]; exact h⟩]
theorem drop_ok (l : List S24) (id : Int) (h : l.length ≤ 8796093022000) : beat_Drop.f l id = some ((sortedL l).filter fun x => !(x.f1 == id)) := by
  unfold beat_Drop.f
  rw [if_pos h]
theorem filt_len (p : S24 → Bool) (l : List S24) : (l.filter p).length + (l.filter fun x => !p x).length = l.length := by
  induction l with
  | nil => rfl
  | cons a l ih =>
    rw [List.filter_cons, List.filter_cons]
    cases h : p a <;> simp <;> omega
/-- A row in order is what is due, ahead of what isn't. -/
theorem split_due (a : Int) : ∀ (s : List S24), s.Pairwise leS → s = (s.filter fun x => decide (x.f0 ≤ a)) ++ s.filter fun x => !decide (x.f0 ≤ a)
  | [], _ => rfl
  | x :: s, h => by
    rw [List.pairwise_cons] at h
    by_cases c : x.f0 ≤ a
    · rw [List.filter_cons, if_pos (by simpa using c), List.filter_cons, if_neg (by simpa using c), List.cons_append, ← split_due a s h.2]
    · have h1 : (s.filter fun x => decide (x.f0 ≤ a)) = [] := by
        rw [List.filter_eq_nil_iff]
        intro y hy
        have := (leS_iff x y).1 (h.1 y hy)
        simp
        omega
      have h2 : (s.filter fun x => !decide (x.f0 ≤ a)) = s := by
        rw [List.filter_eq_self]
        intro y hy
        have := (leS_iff x y).1 (h.1 y hy)
        simp
        omega
      rw [List.filter_cons, if_neg (by simpa using c), List.filter_cons, if_pos (by simpa using c), h1, h2]
      rfl
theorem sortedL_of (s : List S24) (h : s.Pairwise leS) : sortedL s = s := sorted_unique _ _ (sortedL_spec s).1 (sortedL_spec s).2 h
theorem minI_spec (l : List S24) : ∀ n, n ≤ l.length → ∀ i, i < n → leS (l.getD (minI l n) z24) (l.getD i z24)
  | 0, _, i, h => by omega
  | n + 1, hn, i, h => by
    simp only [minI]
    have ih := minI_spec l n (by omega)
    cases hb : ltD (l.getD n z24) (l.getD (minI l n) z24)
    · rw [if_neg (by simp)]
      by_cases e : i = n
      · subst e; exact hb
      · exact ih i (by omega)
    · rw [if_pos rfl]
      by_cases e : i = n
      · subst e; exact leS_refl _
      · exact leS_trans (leS_of_lt hb) (ih i (by omega))
end Go.Proofs.Yteomnodigfcfeaa.Q
