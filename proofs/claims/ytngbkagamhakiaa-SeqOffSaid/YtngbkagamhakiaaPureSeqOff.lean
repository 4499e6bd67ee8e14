/- SeqOff's plain law: what isn't on publishes without a number, and confirms nothing; turned on twice it stays as it was. -/
import Derived.Test.YtngbkagamhakiaaQ6
import Derived.Test.YtngbkagamhakiaaL16
namespace Go.Proofs.Ytngbkagamhakiaa.Pure
open Go.RowKit Go.Proofs.Ytngbkagamhakiaa.Q Go.Proofs.YtngbkagamhakiaaW.PrintWords Go.Proofs.YtngbkagamhakiaaW.PrintLast Go.Proofs.YtngbkagamhakiaaW.PrintMore
set_option linter.unusedVariables false
set_option linter.unusedSimpArgs false

theorem SeqOff (a0_0 : Bool) (a0_1 : Int) (w1 : (Lit.int .u64 a0_1).wf = true) (a0_2 : Int) (w2 : (Lit.int .u64 a0_2).wf = true) (l0_3 : List Int) (hb : l0_3.length * 8 ≤ 140737488351232) (hw : ∀ x ∈ l0_3, (Lit.int .u64 x).wf = true) (a0_4 : Int) (w4 : (Lit.int .u64 a0_4).wf = true) (a0_5 : Int) (w5 : (Lit.int .i64 a0_5).wf = true) (a0_6 : Int) (w6 : (Lit.int .u64 a0_6).wf = true) : ∃ k, interchangelaw16_SeqOff.f k a0_0 a0_1 a0_2 l0_3 a0_4 a0_5 a0_6 = some true := by
  have h4 := u64_wf w4
  have h6 := u64_wf w6
  have h1 := u64_wf w1
  have h2 := u64_wf w2
  have hl : l0_3.length ≤ 17592186044000 := by omega
  have hl' : l0_3.length ≤ 9223372036854775807 := by omega
  obtain ⟨k, hk⟩ : ∃ k, l0_3.length + 300 < k := ⟨_, Nat.lt_succ_self _⟩
  obtain ⟨b, hr, hg⟩ := right_ok a0_0 a0_1 a0_2 l0_3 h1 h2 hl' (k + 1) (by omega)
  refine ⟨k + 1, ?_⟩
  unfold interchangelaw16_SeqOff.f
  rw [interchangelaw16_shown_true, hr]
  simp only [Option.bind_some]
  cases b
  · simp
  rw [if_pos rfl]
  rcases hg rfl with ⟨rfl, rfl, rfl, rfl⟩ | ⟨rfl, g1, g2, g3, g4⟩
  · -- it isn't on
    have hpub : seq_Publish.f false 0 0 [] a0_5 = some (false, 0, 0, [], 0, 0) := by unfold seq_Publish.f; rw [if_neg (by simp)]
    have hcon : seq_Confirm.f false 0 0 [] a0_6 false = some (false, 0, 0, [], [], 16) := by
      unfold seq_Confirm.f
      rw [if_pos (by simp [refused, allOf])]
    have hs0 := same_refl false 0 0 [] (by simp) k (by simp; omega)
    by_cases c1 : a0_4 = 18446744073709551615
    · subst c1
      simp [seq_Select.f, interchangelaw16_SeqOff.j0, hpub, hcon, hs0, u64_wrap]
    · have hs1 := same_refl true 1 a0_4 [] (by simp) (k + 1) (by simp)
      simp [seq_Select.f, c1, hs1, interchangelaw16_SeqOff.j0, hpub, hcon, hs0]
  · have hs1 := same_refl true a0_1 a0_2 l0_3 hl' (k + 1) (by omega)
    have hs0 := same_refl true a0_1 a0_2 l0_3 hl' k (by omega)
    simp [seq_Select.f, hs1, interchangelaw16_SeqOff.j0, hs0]

end Go.Proofs.Ytngbkagamhakiaa.Pure
