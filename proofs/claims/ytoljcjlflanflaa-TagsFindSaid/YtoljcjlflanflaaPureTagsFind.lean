/- TagsFind's plain law: each tag is found by its number; nothing else is. -/
import Derived.Test.YtoljcjlflanflaaQ7
import Derived.Test.YtoljcjlflanflaaL15
namespace Go.Proofs.Ytoljcjlflanflaa.Pure
open Go.RowKit Go.Proofs.Ytoljcjlflanflaa.Q Go.Proofs.YtoljcjlflanflaaW.PrintWords Go.Proofs.YtoljcjlflanflaaW.PrintLast Go.Proofs.YtoljcjlflanflaaW.PrintMore
set_option linter.unusedVariables false
set_option linter.unusedSimpArgs false

theorem find_l0 (mine up : Int) (is : Bool) (nx la : Int) (l : List S47) (hn : l.length ≤ 9223372036854775807) (d : Nat) : ∀ (k n : Nat) (b : Bool), n ≤ l.length → l.length - n = d → d < k →
    interchangelaw15_TagsFind.l0 k mine true up is b (n : Int) nx la l = some ((is == (b || (l.drop n).any fun x => x.f0 == mine && x.f1 == up)) && (is || up == 0)) := by
  induction d with
  | zero =>
    intro k n b h1 hd hk
    obtain ⟨k, rfl⟩ : ∃ m, k = m + 1 := ⟨k - 1, by omega⟩
    obtain rfl : n = l.length := by omega
    simp only [interchangelaw15_TagsFind.l0]
    rw [if_neg (by omega), List.drop_length]
    cases is <;> cases b <;> simp
  | succ d ih =>
    intro k n b h1 hd hk
    obtain ⟨k, rfl⟩ : ∃ m, k = m + 1 := ⟨k - 1, by omega⟩
    have hlt : n < l.length := by omega
    have hdr : l.drop n = l[n] :: l.drop (n + 1) := List.drop_eq_getElem_cons hlt
    simp only [interchangelaw15_TagsFind.l0]
    rw [if_pos (by omega), wrapN hlt hn]
    cases b
    · rw [if_neg (by simp), if_pos (by omega), rdT_nat l n hlt]
      by_cases c : l[n].f0 = mine
      · rw [if_pos c, ih k (n + 1) _ (by omega) (by omega) (by omega), hdr, List.any_cons, c, beq_self_eq_true, Bool.true_and, Bool.false_or]
      · rw [if_neg c, ih k (n + 1) _ (by omega) (by omega) (by omega), hdr, List.any_cons, beq_eq_false_iff_ne.2 c, Bool.false_and, Bool.false_or, Bool.false_or]
    · rw [if_pos rfl, ih k (n + 1) _ (by omega) (by omega) (by omega)]
      simp

theorem TagsFind (a0_0 : Int) (w1 : (Lit.int .u64 a0_0).wf = true) (a0_1 : Int) (w2 : (Lit.int .u64 a0_1).wf = true) (l0_2 : List S47) (hb : l0_2.length * 16 ≤ 140737488351232) (hw : ∀ x ∈ l0_2, (Lit.int .u64 x.f0).wf = true ∧ (Lit.int .u64 x.f1).wf = true) (a1 : Int) (w3 : (Lit.int .u64 a1).wf = true) : ∃ k, interchangelaw15_TagsFind.f k a0_0 a0_1 l0_2 a1 = some true := by
  have h1 := u64_wf w1
  have h2 := u64_wf w2
  have hl : l0_2.length ≤ 8796093022000 := by omega
  have hl' : l0_2.length ≤ 9223372036854775807 := by omega
  obtain ⟨k, hk⟩ : ∃ k, 2 * l0_2.length + 300 < k := ⟨_, Nat.lt_succ_self _⟩
  obtain ⟨b, hr, hg⟩ := right_ok a0_0 a0_1 l0_2 hl' k (by omega)
  refine ⟨k, ?_⟩
  unfold interchangelaw15_TagsFind.f
  rw [interchangelaw15_shown_true, hr]
  simp only [Option.bind_some]
  cases b
  · simp
  rw [if_pos rfl]
  obtain ⟨g1, g2, g3⟩ := hg.1 rfl
  rcases find_cases a0_0 a0_1 l0_2 a1 g3 with ⟨h, h'⟩ | ⟨x, hx, he, h⟩
  · rw [h]
    simp only [Option.bind_some]
    have := find_l0 a1 0 false a0_0 a0_1 l0_2 hl' l0_2.length k 0 false (by omega) (by omega) (by omega)
    rw [Int.natCast_zero] at this
    rw [this, List.drop_zero]
    have hany : (l0_2.any fun x => x.f0 == a1 && x.f1 == 0) = false := by
      rw [List.any_eq_false]
      intro x hx
      simp [h' x hx]
    rw [hany]
    rfl
  · rw [h]
    simp only [Option.bind_some]
    have := find_l0 a1 x.f1 true a0_0 a0_1 l0_2 hl' l0_2.length k 0 false (by omega) (by omega) (by omega)
    rw [Int.natCast_zero] at this
    rw [this, List.drop_zero]
    have hany : (l0_2.any fun y => y.f0 == a1 && y.f1 == x.f1) = true := by
      rw [List.any_eq_true]
      exact ⟨x, hx, by simp [he]⟩
    rw [hany]
    rfl

end Go.Proofs.Ytoljcjlflanflaa.Pure
