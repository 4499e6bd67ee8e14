/- SeqFull's plain law: as many may be unconfirmed as may be, and no more. -/
import Derived.Test.YtngbkagamhakiaaQ8
import Derived.Test.YtngbkagamhakiaaL16
namespace Go.Proofs.Ytngbkagamhakiaa.Pure
open Go.RowKit Go.Proofs.Ytngbkagamhakiaa.Q Go.Proofs.YtngbkagamhakiaaW.PrintWords Go.Proofs.YtngbkagamhakiaaW.PrintLast Go.Proofs.YtngbkagamhakiaaW.PrintMore
set_option linter.unusedVariables false
set_option linter.unusedSimpArgs false

theorem SeqFull (a0_0 : Bool) (a0_1 : Int) (w1 : (Lit.int .u64 a0_1).wf = true) (a0_2 : Int) (w2 : (Lit.int .u64 a0_2).wf = true) (l0_3 : List Int) (hb : l0_3.length * 8 ≤ 140737488351232) (hw : ∀ x ∈ l0_3, (Lit.int .u64 x).wf = true) (a1 : Int) (w3 : (Lit.int .i64 a1).wf = true) : ∃ k, interchangelaw16_SeqFull.f k a0_0 a0_1 a0_2 l0_3 a1 = some true := by
  have h3 := i64_wf w3
  have h1 := u64_wf w1
  have h2 := u64_wf w2
  have hl : l0_3.length ≤ 17592186044000 := by omega
  have hl' : l0_3.length ≤ 9223372036854775807 := by omega
  obtain ⟨k, hk⟩ : ∃ k, l0_3.length + 300 < k := ⟨_, Nat.lt_succ_self _⟩
  obtain ⟨b, hr, hg⟩ := right_ok a0_0 a0_1 a0_2 l0_3 h1 h2 hl' (k + 1) (by omega)
  refine ⟨k + 1, ?_⟩
  unfold interchangelaw16_SeqFull.f
  rw [interchangelaw16_shown_true, hr]
  simp only [Option.bind_some]
  cases b
  · simp [interchangelaw16_SeqFull.j0]
  rcases hg rfl with ⟨rfl, rfl, rfl, rfl⟩ | ⟨rfl, g1, g2, g3, g4⟩
  · simp [interchangelaw16_SeqFull.j0]
  rw [if_pos rfl, if_pos rfl]
  by_cases c1 : a0_1 > 4611686018427387904
  · rw [if_pos c1]; simp [interchangelaw16_SeqFull.j0]
  rw [if_neg c1]
  by_cases c2 : a0_2 > 4611686018427387904
  · simp [interchangelaw16_SeqFull.j0, c2]
  simp only [interchangelaw16_SeqFull.j0]
  rw [if_neg (by rw [decide_eq_false c2]; simp)]
  have hp : ¬ IntKind.u64.wrap (a0_1 + a0_2) = 18446744073709551615 := by rw [u64_wrap]; omega
  by_cases c3 : a1 ≤ (l0_3.length : Int)
  · have : seq_Publish.f true a0_1 a0_2 l0_3 a1 = some (true, a0_1, a0_2, l0_3, 0, 12) := by
      unfold seq_Publish.f
      rw [if_pos rfl, if_neg hp, if_pos c3]
    rw [this]
    simp only [Option.bind_some]
    rw [if_neg (by decide)]
    simp only [if_true]
    rw [if_pos (by omega), same_refl true a0_1 a0_2 l0_3 hl' k (by omega)]
    rfl
  · have : seq_Publish.f true a0_1 a0_2 l0_3 a1 = some (true, IntKind.u64.wrap (a0_1 + 1), a0_2, l0_3 ++ [a0_1], a0_1, 0) := by
      unfold seq_Publish.f
      rw [if_pos rfl, if_neg hp, if_neg c3, if_pos hl]
    rw [this]
    simp only [Option.bind_some, if_true]
    rw [if_pos (by omega), if_pos (by rw [List.length_append, List.length_singleton]; unfold wrap64; omega)]
    simp

end Go.Proofs.Ytngbkagamhakiaa.Pure
