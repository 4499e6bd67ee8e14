/- LineFull's plain law: a line never has more than it may; who may not wait isn't added; nobody waits twice. -/
import Derived.Test.YtpfaidejbnbelaaQ4
import Derived.Test.YtpfaidejbnbelaaL13
namespace Go.Proofs.Ytpfaidejbnbelaa.Pure
open Go.RowKit Go.Proofs.Ytpfaidejbnbelaa.Q Go.Proofs.YtpfaidejbnbelaaW.PrintWords Go.Proofs.YtpfaidejbnbelaaW.PrintLast Go.Proofs.YtpfaidejbnbelaaW.PrintMore

theorem LineFull : interchangelaw14_LineFull.Pure := by
  intro l a m _ h8 _ _ _
  have hl : l.length ≤ 9223372036854775807 := by omega
  refine ⟨l.length + 1, ?_⟩
  unfold interchangelaw14_LineFull.f
  rw [shown_true]
  simp only [Option.bind_some, if_true]
  unfold line_Add.f
  simp only [Option.bind_some]
  have hr := idx_range l a
  have hat := at_idx l a hl (l.length + 1) (by omega)
  by_cases c1 : a < 1
  · rw [if_pos c1, if_neg (by simp), ints_f l l hl _ (by omega)]
    simp [c1]
  · rw [if_neg c1]
    by_cases c2 : 0 ≤ idx l a
    · rw [if_pos c2, if_neg (by simp), ints_f l l hl _ (by omega)]
      simp [c1]
    · rw [if_neg c2]
      by_cases c3 : mn (mx m 0) 1000 ≤ (l.length : Int)
      · rw [if_pos c3, if_neg (by simp), ints_f l l hl _ (by omega)]
        simp [c1]
      · rw [if_neg c3, if_pos rfl]
        have hm : (l.length : Int) < m ∧ (l.length : Int) < 1000 := by
          unfold mn mx at c3
          split at c3 <;> split at c3 <;> omega
        have hlen : (((l ++ [a]).length : Nat) : Int) = (l.length : Int) + 1 := by simp
        have hw : wrap64 ((l.length : Int) + 1) = (l.length : Int) + 1 := by unfold wrap64; omega
        rw [hlen, hw, if_pos rfl, if_pos (by omega), if_pos (by omega), hat]
        have hw2 : wrap64 ((l.length : Int) + 1 - 1) = (l.length : Int) := by unfold wrap64; omega
        simp only [Option.bind_some, hw2]
        rw [if_pos (by omega), if_pos (by omega), if_pos (by omega), if_pos (by simp [rd])]
        simp
        omega
end Go.Proofs.Ytpfaidejbnbelaa.Pure
