/- Plain laws: two rows of numbers, held against each other; the document's example. -/
import Derived.Test.YtpfaidejbnbelaaQ13
import Derived.Test.YtpfaidejbnbelaaQ9
import Derived.Test.YtpfaidejbnbelaaL11
namespace Go.Proofs.Ytpfaidejbnbelaa.Q
open Go.RowKit Go.Proofs.YtpfaidejbnbelaaW.PrintWords Go.Proofs.YtpfaidejbnbelaaW.PrintLast Go.Proofs.YtpfaidejbnbelaaW.PrintMore
set_option linter.unusedVariables false
set_option linter.unusedSimpArgs false

theorem shown_true : interchangelaw14_shown.f = some true := by decide +kernel

theorem ints_l0 (a b : List Int) (he : a.length = b.length) (hn : a.length ≤ 9223372036854775807) (d : Nat) : ∀ (k n : Nat), n ≤ a.length → a.length - n = d → d < k →
    interchangeref05_Ints.l0 k a b (n : Int) = some (decide (a.drop n = b.drop n)) := by
  induction d with
  | zero =>
    intro k n h1 hd hk
    obtain ⟨k, rfl⟩ : ∃ m, k = m + 1 := ⟨k - 1, by omega⟩
    simp only [interchangeref05_Ints.l0]
    rw [if_neg (by omega), List.drop_eq_nil_of_le (by omega), List.drop_eq_nil_of_le (by omega)]
    simp
  | succ d ih =>
    intro k n h1 hd hk
    obtain ⟨k, rfl⟩ : ∃ m, k = m + 1 := ⟨k - 1, by omega⟩
    have hlt : n < a.length := by omega
    have hlt' : n < b.length := by omega
    have ih' := ih k (n + 1) (by omega) (by omega) (by omega)
    simp only [interchangeref05_Ints.l0]
    rw [if_pos (by omega), if_pos (by omega), if_pos (by omega), rd_nat a n hlt, rd_nat b n hlt', wrap_nat hlt hn, List.drop_eq_getElem_cons hlt, List.drop_eq_getElem_cons hlt']
    generalize a[n] = x at *
    generalize b[n] = y at *
    by_cases e : x = y
    · rw [if_pos e, ih']
      simp [e]
    · rw [if_neg e]
      simp [e]
theorem ints_f (a b : List Int) (hn : a.length ≤ 9223372036854775807) (k : Nat) (hk : a.length < k) : interchangeref05_Ints.f k a b = some (decide (a = b)) := by
  unfold interchangeref05_Ints.f
  by_cases he : a.length = b.length
  · rw [if_pos (by omega)]
    have := ints_l0 a b he hn a.length k 0 (by omega) (by omega) hk
    simpa using this
  · rw [if_neg (by omega)]
    have : a ≠ b := fun h => he (by rw [h])
    simp [this]
end Go.Proofs.Ytpfaidejbnbelaa.Q
