/- LineServes's plain law: the first ones and the others, one behind the other, are all; at most as many as were asked for. -/
import Derived.Test.YtpfaidejbnbelaaQ8
import Derived.Test.YtpfaidejbnbelaaL13
namespace Go.Proofs.Ytpfaidejbnbelaa.Pure
open Go.RowKit Go.Proofs.Ytpfaidejbnbelaa.Q Go.Proofs.YtpfaidejbnbelaaW.PrintWords Go.Proofs.YtpfaidejbnbelaaW.PrintLast Go.Proofs.YtpfaidejbnbelaaW.PrintMore
set_option linter.unusedVariables false
set_option linter.unusedSimpArgs false

theorem LineServes : interchangelaw14_LineServes.Pure := by
  intro l n _ h8 _ _
  have hl : l.length ≤ 9223372036854775807 := by omega
  refine ⟨l.length + 1, ?_⟩
  unfold interchangelaw14_LineServes.f line_Serve.f
  rw [shown_true, if_pos (by omega)]
  have h1 := List.length_take_le n.toNat l
  have h2 : (l.take n.toNat).length + (l.drop n.toNat).length = l.length := by rw [← List.length_append, List.take_append_drop]
  simp only [Option.bind_some, if_true, List.nil_append, List.length_nil, Nat.zero_add]
  by_cases c : n < 0
  · rw [if_pos c, if_pos (by omega), if_pos (by omega), List.take_append_drop, ints_f l l hl _ (by omega)]
    simp only [decide_true, Option.bind_some, if_true]
    rw [List.length_take, if_pos (by omega), if_pos (by omega)]
  · rw [if_neg c, if_pos (by omega), if_pos (by omega), List.take_append_drop, ints_f l l hl _ (by omega)]
    simp only [decide_true, Option.bind_some, if_true]
    rw [List.length_take, List.length_drop, if_pos (by omega)]
    by_cases c2 : ((min n.toNat l.length : Nat) : Int) = n
    · rw [if_pos c2]
    · rw [if_neg c2]
      simp
      omega
end Go.Proofs.Ytpfaidejbnbelaa.Pure
