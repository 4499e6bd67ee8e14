/- TagsMany's plain law: settled up to a number, just those up to it are told, in order; settled one by one it comes to the same. -/
import Derived.Test.YtoljcjlflanflaaQ8
import Derived.Test.YtoljcjlflanflaaL15
namespace Go.Proofs.Ytoljcjlflanflaa.Pure
open Go.RowKit Go.Proofs.Ytoljcjlflanflaa.Q Go.Proofs.YtoljcjlflanflaaW.PrintWords Go.Proofs.YtoljcjlflanflaaW.PrintLast Go.Proofs.YtoljcjlflanflaaW.PrintMore
set_option linter.unusedVariables false
set_option linter.unusedSimpArgs false

theorem many_l0 (mine nx la : Int) (p : S47 → Bool) (L : List S47) (g2 : GL nx la L) (hl : L.length ≤ 100) (hp : (mine = 0 ∧ ∀ x, p x = true) ∨ (mine ≠ 0 ∧ ∀ x, p x = (x.f0 == mine || decide (x.f0 < mine)))) :
    ∀ (B A : List S47) (k : Nat), L = A ++ B → 2 * B.length + 300 < k →
    interchangelaw15_TagsMany.l0 k mine true ((L.filter p).map (·.f1)) ((A.filter p).map (·.f1)) (A.length : Int) nx la L nx la (L.filter fun x => !p x) nx la ((A.filter fun x => !p x) ++ B) = some true := by
  intro B
  induction B with
  | nil =>
    intro A k hL hk
    obtain ⟨k, rfl⟩ : ∃ m, k = m + 1 := ⟨k - 1, by omega⟩
    rw [List.append_nil] at hL
    subst hL
    simp only [interchangelaw15_TagsMany.l0]
    have h1 : (L.filter p).length ≤ L.length := List.length_filter_le _ _
    have h3 : (L.filter fun x => !p x).length ≤ L.length := List.length_filter_le _ _
    rw [if_neg (by omega), if_pos trivial, nums_ok _ _ (by rw [List.length_map]; omega) k (by rw [List.length_map]; omega), List.append_nil, tsame_refl nx la _ (by omega) k (by omega)]
    simp
  | cons a B ih =>
    intro A k hL hk
    obtain ⟨k, rfl⟩ : ∃ m, k = m + 1 + 1 := ⟨k - 2, by omega⟩
    rw [List.length_cons] at hk
    have hlen : A.length < L.length := by rw [hL]; simp
    have hat : L[A.length] = a := by
      have : L[A.length]? = some a := by rw [hL]; simp
      rw [List.getElem?_eq_getElem hlen] at this
      exact Option.some.inj this
    have hpw := g2.2
    rw [hL, List.pairwise_append, List.pairwise_cons] at hpw
    have hnext := ih (A ++ [a]) k (by rw [hL]; simp) (by omega)
    have hAa : ∀ x ∈ A, x.f0 < a.f0 := fun x hx => (hpw.2.2 x hx a List.mem_cons_self).1
    have hBa : ∀ x ∈ B, a.f0 < x.f0 := fun x hx => (hpw.2.1.1 x hx).1
    have hrd : rd_T47 L (A.length : Int) = a := by rw [rdT_nat L A.length hlen, hat]
    have hwn : wrap64 ((A.length : Int) + 1) = ((A ++ [a]).length : Int) := by rw [wrapN hlen (by omega)]; simp
    simp only [interchangelaw15_TagsMany.l0]
    rw [if_pos (by omega)]
    have hskip : ∀ (sk : Bool), (sk = !p a) → interchangelaw15_TagsMany.j2 (k + 1) mine true ((L.filter p).map (·.f1)) ((A.filter p).map (·.f1)) (A.length : Int) sk nx la L nx la (L.filter fun x => !p x) nx la ((A.filter fun x => !p x) ++ a :: B) = some true := by
      intro sk hsk
      cases hpa : p a
      · rw [hpa] at hsk
        subst hsk
        simp only [interchangelaw15_TagsMany.j2]
        rw [hwn]
        have e1 : (A ++ [a]).filter p = A.filter p := by simp [hpa]
        have e2 : ((A ++ [a]).filter fun x => !p x) ++ B = (A.filter fun x => !p x) ++ a :: B := by simp [hpa]
        rw [e1, e2] at hnext
        simpa using hnext
      · rw [hpa] at hsk
        subst hsk
        simp only [interchangelaw15_TagsMany.j2]
        rw [if_neg (by simp), if_pos (by omega), if_pos (by omega), hrd, hwn]
        have hlN : ((A.filter fun x => !p x) ++ a :: B).length ≤ L.length := by
          rw [hL, List.length_append, List.length_append]
          have : (A.filter fun x => !p x).length ≤ A.length := List.length_filter_le _ _
          omega
        have hGN : ((A.filter fun x => !p x) ++ a :: B).Pairwise (fun x y => x.f0 < y.f0 ∧ x.f1 < y.f1) := by
          rw [List.pairwise_append]
          refine ⟨hpw.1.filter _, ?_, fun x hx y hy => hpw.2.2 x (List.mem_filter.1 hx).1 y hy⟩
          rw [List.pairwise_cons]
          exact hpw.2.1
        rcases settle_cases nx la ((A.filter fun x => !p x) ++ a :: B) a.f0 false hGN (by omega) with ⟨_, ⟨h, _⟩ | ⟨_, h⟩⟩ | ⟨q, h, ⟨h0, _⟩ | ⟨_, _, hq⟩⟩
        · cases h
        · exact absurd rfl (h a (by simp))
        · cases h0
        have hq' : ∀ x, q x = (x.f0 == a.f0) := fun x => by rw [hq]; simp
        rw [h]
        simp only [Option.bind_some, if_true]
        have e1 : (((A.filter fun x => !p x) ++ a :: B).filter q) = [a] := by
          rw [List.filter_append, filt_none (p := q) (fun x hx => by have := hAa x (List.mem_filter.1 hx).1; rw [hq']; simp; omega), List.filter_cons, if_pos (by rw [hq']; simp), filt_none (p := q) (fun x hx => by have := hBa x hx; rw [hq']; simp; omega)]
          rfl
        have e2 : (((A.filter fun x => !p x) ++ a :: B).filter fun x => !q x) = (A.filter fun x => !p x) ++ B := by
          rw [List.filter_append, filt_all (p := fun x => !q x) (fun x hx => by have := hAa x (List.mem_filter.1 hx).1; simp [hq']; omega), List.filter_cons, if_neg (by simp [hq']), filt_all (p := fun x => !q x) (fun x hx => by have := hBa x hx; simp [hq']; omega)]
        have hlA : (A.filter p).length ≤ A.length := List.length_filter_le _ _
        rw [e1, e2, if_pos (by simp; omega)]
        have e3 : ((A ++ [a]).filter p).map (·.f1) = (A.filter p).map (·.f1) ++ [a].map (·.f1) := by simp [hpa]
        have e4 : ((A ++ [a]).filter fun x => !p x) ++ B = (A.filter fun x => !p x) ++ B := by simp [hpa]
        rw [e3, e4] at hnext
        exact hnext
    rcases hp with ⟨h0, hall⟩ | ⟨h0, hp⟩
    · rw [if_pos h0]
      exact hskip false (by rw [hall]; rfl)
    · rw [if_neg h0, if_pos (by omega), hrd]
      refine hskip _ ?_
      rw [hp, Bool.eq_iff_iff]
      simp
      omega

theorem TagsMany (a0_0 : Int) (w1 : (Lit.int .u64 a0_0).wf = true) (a0_1 : Int) (w2 : (Lit.int .u64 a0_1).wf = true) (l0_2 : List S47) (hb : l0_2.length * 16 ≤ 140737488351232) (hw : ∀ x ∈ l0_2, (Lit.int .u64 x.f0).wf = true ∧ (Lit.int .u64 x.f1).wf = true) (a1 : Int) (w3 : (Lit.int .u64 a1).wf = true) : ∃ k, interchangelaw15_TagsMany.f k a0_0 a0_1 l0_2 a1 = some true := by
  have h1 := u64_wf w1
  have h2 := u64_wf w2
  have hl : l0_2.length ≤ 8796093022000 := by omega
  have hl' : l0_2.length ≤ 9223372036854775807 := by omega
  obtain ⟨k, hk⟩ : ∃ k, 2 * l0_2.length + 600 < k := ⟨_, Nat.lt_succ_self _⟩
  obtain ⟨b, hr, hg⟩ := right_ok a0_0 a0_1 l0_2 hl' (k + 1) (by omega)
  refine ⟨k + 1, ?_⟩
  unfold interchangelaw15_TagsMany.f
  rw [interchangelaw15_shown_true, hr]
  simp only [Option.bind_some]
  cases b
  · simp [interchangelaw15_TagsMany.j0]
  rw [if_pos rfl]
  obtain ⟨g1, g2, g3⟩ := hg.1 rfl
  simp only [interchangelaw15_TagsMany.j0]
  by_cases c0 : (l0_2.length : Int) > 100
  · simp [c0]
  rw [if_neg (by simpa using c0)]
  rcases settle_cases a0_0 a0_1 l0_2 a1 true g3 hl with ⟨h, _⟩ | ⟨p, h, hp⟩
  · rw [h]
    simp
  rw [h]
  simp only [Option.bind_some, if_true]
  have hp' : (a1 = 0 ∧ ∀ x, p x = true) ∨ (a1 ≠ 0 ∧ ∀ x, p x = (x.f0 == a1 || decide (x.f0 < a1))) := by
    rcases hp with ⟨_, h0, _, hall⟩ | ⟨hna, _, hp⟩
    · exact .inl ⟨h0, hall⟩
    · exact .inr ⟨fun e => hna ⟨rfl, e⟩, fun x => by rw [hp]; simp⟩
  have := many_l0 a1 a0_0 a0_1 p l0_2 ⟨g2, g3⟩ (by omega) hp' l0_2 [] k rfl (by omega)
  simpa using this

end Go.Proofs.Ytoljcjlflanflaa.Pure
