/- TagsFull's plain law: as many may be unsettled as may be, and no more; one that is settled makes room for one. -/
import Derived.Test.YtoljcjlflanflaaQ4
import Derived.Test.YtoljcjlflanflaaL15
namespace Go.Proofs.Ytoljcjlflanflaa.Pure
open Go.RowKit Go.Proofs.Ytoljcjlflanflaa.Q Go.Proofs.YtoljcjlflanflaaW.PrintWords Go.Proofs.YtoljcjlflanflaaW.PrintLast Go.Proofs.YtoljcjlflanflaaW.PrintMore
set_option linter.unusedVariables false
set_option linter.unusedSimpArgs false

theorem TagsFull (a0_0 : Int) (w1 : (Lit.int .u64 a0_0).wf = true) (a0_1 : Int) (w2 : (Lit.int .u64 a0_1).wf = true) (l0_2 : List S47) (hb : l0_2.length * 16 ≤ 140737488351232) (hw : ∀ x ∈ l0_2, (Lit.int .u64 x.f0).wf = true ∧ (Lit.int .u64 x.f1).wf = true) (a1 : Int) (w3 : (Lit.int .i64 a1).wf = true) : ∃ k, interchangelaw15_TagsFull.f k a0_0 a0_1 l0_2 a1 = some true := by
  have h1 := u64_wf w1
  have h2 := u64_wf w2
  have hl : l0_2.length ≤ 8796093022000 := by omega
  have hl' : l0_2.length ≤ 9223372036854775807 := by omega
  obtain ⟨k, hk⟩ : ∃ k, 2 * l0_2.length + 300 < k := ⟨_, Nat.lt_succ_self _⟩
  obtain ⟨b, hr, hg⟩ := right_ok a0_0 a0_1 l0_2 hl' (k + 1) (by omega)
  refine ⟨k + 1, ?_⟩
  unfold interchangelaw15_TagsFull.f
  rw [interchangelaw15_shown_true, hr]
  simp only [Option.bind_some]
  cases b
  · simp [interchangelaw15_TagsFull.j0]
  rw [if_pos rfl]
  obtain ⟨g1, g2, g3⟩ := hg.1 rfl
  by_cases c1 : a0_1 > 9223372036854775808
  · rw [if_pos c1]; simp [interchangelaw15_TagsFull.j0]
  rw [if_neg c1]
  by_cases c2 : a0_0 > 9223372036854775808
  · simp [interchangelaw15_TagsFull.j0, c2]
  have hw1 : IntKind.u64.wrap (a0_1 + 1) = a0_1 + 1 := by rw [u64_wrap]; omega
  have hw0 : IntKind.u64.wrap (a0_0 + 1) = a0_0 + 1 := by rw [u64_wrap]; omega
  simp only [interchangelaw15_TagsFull.j0]
  rw [if_neg (by simp; omega), hw1]
  have hD : tags_Deliver.f a0_0 a0_1 l0_2 (a0_1 + 1) a1 = if a1 ≤ (l0_2.length : Int) then some (a0_0, a0_1, l0_2, 0, 12) else some (a0_0 + 1, a0_1 + 1, l0_2 ++ [⟨a0_0, a0_1 + 1⟩], a0_0, 0) := by
    unfold tags_Deliver.f
    rw [if_neg (by omega), if_neg (by omega), if_pos hl, hw0]
  rw [hD]
  by_cases c3 : a1 ≤ (l0_2.length : Int)
  · rw [if_pos c3]
    simp [c3]
  rw [if_neg c3]
  simp only [Option.bind_some, if_true]
  have hs : (l0_2 ++ [(⟨a0_0, a0_1 + 1⟩ : S47)]).Pairwise (fun x y => x.f0 < y.f0 ∧ x.f1 < y.f1) := by
    rw [List.pairwise_append]
    refine ⟨g3, List.pairwise_singleton _ _, fun a ha b hb => ?_⟩
    rw [List.mem_singleton] at hb
    subst hb
    have := g2 a ha
    simp only
    omega
  have f1 : ∀ p : S47 → Bool, (∀ x, p x = (x.f0 == a0_0)) → (l0_2 ++ [(⟨a0_0, a0_1 + 1⟩ : S47)]).filter p = [⟨a0_0, a0_1 + 1⟩] ∧ (l0_2 ++ [(⟨a0_0, a0_1 + 1⟩ : S47)]).filter (fun x => !p x) = l0_2 := by
    intro p hp
    rw [List.filter_append, List.filter_append, filt_none (p := p) (l := l0_2) (fun x hx => by have := g2 x hx; rw [hp]; simp; omega), filt_all (p := fun x => !p x) (l := l0_2) (fun x hx => by have := g2 x hx; simp [hp]; omega)]
    simp [hp]
  rcases settle_cases (a0_0 + 1) (a0_1 + 1) (l0_2 ++ [⟨a0_0, a0_1 + 1⟩]) a0_0 false hs (by simp; omega) with ⟨h, ⟨hm, _⟩ | ⟨_, hno⟩⟩ | ⟨p, h, ⟨hm, _⟩ | ⟨_, _, hp⟩⟩
  · cases hm
  · exact absurd rfl (hno ⟨a0_0, a0_1 + 1⟩ (by simp))
  · cases hm
  · obtain ⟨e1, e2⟩ := f1 p (fun x => by rw [hp]; simp)
    rw [h, e1, e2, hw0]
    have c3' : (l0_2.length : Int) < a1 := by omega
    simp [c3', rd]

end Go.Proofs.Ytoljcjlflanflaa.Pure
