/- LineFirst's plain law: who is first is at the place 0; without it all others are one place ahead. -/
import Derived.Test.YtpfaidejbnbelaaQ5
import Derived.Test.YtpfaidejbnbelaaL13
namespace Go.Proofs.Ytpfaidejbnbelaa.Pure
open Go.RowKit Go.Proofs.Ytpfaidejbnbelaa.Q Go.Proofs.YtpfaidejbnbelaaW.PrintWords Go.Proofs.YtpfaidejbnbelaaW.PrintLast Go.Proofs.YtpfaidejbnbelaaW.PrintMore
set_option linter.unusedVariables false
set_option linter.unusedSimpArgs false

theorem LineFirst : interchangelaw14_LineFirst.Pure := by
  intro l a _ h8 _ _
  have hl : l.length ≤ 9223372036854775807 := by omega
  refine ⟨l.length + 1, ?_⟩
  unfold interchangelaw14_LineFirst.f line_First.f
  rw [shown_true]
  simp only [Option.bind_some, if_true]
  cases l with
  | nil => simp
  | cons x r =>
    rw [List.length_cons] at hl
    have hw : wrap64 (((x :: r).length : Int) - 1) = (r.length : Int) := by rw [List.length_cons]; unfold wrap64; omega
    simp only [if_true]
    rw [at_idx (x :: r) a (by rw [List.length_cons]; omega) _ (by omega), at_idx (x :: r) x (by rw [List.length_cons]; omega) _ (by omega), at_idx r a (by omega) _ (by simp; omega)]
    simp only [Option.bind_some, hw, if_true]
    have h0 : idx (x :: r) x = 0 := by simp [idx]
    rw [if_pos h0]
    by_cases c : idx (x :: r) a < 1
    · rw [if_pos c]
    · rw [if_neg c]
      have hm := (idx_neg (x :: r) a).1 (by omega)
      have e : x ≠ a := by
        intro e
        subst e
        omega
      have hm2 : a ∈ r := by
        rcases List.mem_cons.1 hm with h | h
        · exact absurd h.symm e
        · exact h
      have h1 : idx (x :: r) a = idx r a + 1 := by
        unfold idx
        rw [if_pos hm, if_pos hm2, List.idxOf_cons, show (x == a) = false by simp [e]]
        simp
      have hr := idx_range r a
      rw [h1, show wrap64 (idx r a + 1 - 1) = idx r a by unfold wrap64; omega]
      simp
end Go.Proofs.Ytpfaidejbnbelaa.Pure
