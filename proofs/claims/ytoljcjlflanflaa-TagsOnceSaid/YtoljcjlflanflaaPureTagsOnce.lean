/- TagsOnce's plain law: what was settled isn't found any more, and isn't settled again; all others are as they were. -/
import Derived.Test.YtoljcjlflanflaaQ6
import Derived.Test.YtoljcjlflanflaaL15
namespace Go.Proofs.Ytoljcjlflanflaa.Pure
open Go.RowKit Go.Proofs.Ytoljcjlflanflaa.Q Go.Proofs.YtoljcjlflanflaaW.PrintWords Go.Proofs.YtoljcjlflanflaaW.PrintLast Go.Proofs.YtoljcjlflanflaaW.PrintMore
set_option linter.unusedVariables false
set_option linter.unusedSimpArgs false

theorem uniq0 {l : List S47} (hs : l.Pairwise (fun x y => x.f0 < y.f0 ∧ x.f1 < y.f1)) {x y : S47} (hx : x ∈ l) (hy : y ∈ l) (h : x.f0 = y.f0 ∨ x.f1 = y.f1) : x = y := by
  obtain ⟨q, hq, rfl⟩ := List.getElem_of_mem hx
  obtain ⟨r, hr, rfl⟩ := List.getElem_of_mem hy
  rcases Nat.lt_trichotomy q r with c | c | c
  · have := List.pairwise_iff_getElem.1 hs q r hq hr c; omega
  · subst c; rfl
  · have := List.pairwise_iff_getElem.1 hs r q hr hq c; omega
theorem once_l0 (mine : Int) (many : Bool) (told : List Int) (x y : Int) (is has : Bool) (s0 s1 : Int) (s2 : List S47) (hn : told.length ≤ 9223372036854775807) (d : Nat) : ∀ (m n : Nat) (b : Bool), n ≤ told.length → told.length - n = d →
    interchangelaw15_TagsOnce.l0 (d + 1 + m) mine many true told x is y has b (n : Int) s0 s1 s2 =
      interchangelaw15_TagsOnce.j1 m mine many true (if is then (has == (b || (told.drop n).any fun z => z == x)) || has && x != y else has) s0 s1 s2 ∨ (is = false ∧ b = true) := by
  induction d with
  | zero =>
    intro m n b h1 hd
    obtain rfl : n = told.length := by omega
    rw [show 0 + 1 + m = m + 1 by omega]
    simp only [interchangelaw15_TagsOnce.l0]
    rw [if_neg (by omega), List.drop_length]
    cases is <;> cases has <;> cases b <;> simp
  | succ d ih =>
    intro m n b h1 hd
    have hlt : n < told.length := by omega
    have hdr : told.drop n = told[n] :: told.drop (n + 1) := List.drop_eq_getElem_cons hlt
    rw [show d + 1 + 1 + m = (d + 1 + m) + 1 by omega]
    simp only [interchangelaw15_TagsOnce.l0]
    rw [if_pos (by omega), wrapN hlt hn]
    cases b
    · rw [if_neg (by simp)]
      cases is
      · rw [if_neg (by simp)]
        rcases ih m (n + 1) false (by omega) (by omega) with h | ⟨_, h⟩
        · rw [h]; simp
        · cases h
      · rw [if_pos rfl, if_pos (by omega), rdI_nat told n hlt]
        rcases ih m (n + 1) (told[n] == x) (by omega) (by omega) with h | ⟨h, _⟩
        · exact .inl (by rw [h, hdr, List.any_cons, Bool.false_or])
        · cases h
    · rw [if_pos rfl]
      rcases ih m (n + 1) true (by omega) (by omega) with h | h
      · rw [h]; simp
      · exact .inr h

theorem TagsOnce (a0_0 : Int) (w1 : (Lit.int .u64 a0_0).wf = true) (a0_1 : Int) (w2 : (Lit.int .u64 a0_1).wf = true) (l0_2 : List S47) (hb : l0_2.length * 16 ≤ 140737488351232) (hw : ∀ x ∈ l0_2, (Lit.int .u64 x.f0).wf = true ∧ (Lit.int .u64 x.f1).wf = true) (a0_3 : Int) (w3 : (Lit.int .u64 a0_3).wf = true) (a0_4 : Bool) (a0_5 : Int) (w5 : (Lit.int .u64 a0_5).wf = true) : ∃ k, interchangelaw15_TagsOnce.f k a0_0 a0_1 l0_2 a0_3 a0_4 a0_5 = some true := by
  have h1 := u64_wf w1
  have h2 := u64_wf w2
  have hl : l0_2.length ≤ 8796093022000 := by omega
  have hl' : l0_2.length ≤ 9223372036854775807 := by omega
  have main : ∀ (k : Nat) (p : S47 → Bool), k = ((l0_2.filter p).map (·.f1)).length + 1 + (2 * l0_2.length + 300) → ((a0_4 = true ∧ a0_3 = 0 ∧ l0_2 ≠ [] ∧ ∀ x, p x = true) ∨ (¬ (a0_4 = true ∧ a0_3 = 0) ∧ (∃ x ∈ l0_2, x.f0 = a0_3) ∧ ∀ x, p x = (x.f0 == a0_3 || a0_4 && decide (x.f0 < a0_3)))) → 1 ≤ a0_0 ∧ GL a0_0 a0_1 l0_2 →
      ((tags_Find.f a0_0 a0_1 l0_2 a0_5).bind fun bt231 => ((tags_Find.f a0_0 a0_1 (l0_2.filter fun x => !p x) a0_5).bind fun bt233 => (interchangelaw15_TagsOnce.l0 k a0_3 a0_4 true ((l0_2.filter p).map (·.f1)) bt231.1 bt231.2 bt233.1 bt233.2 false 0 a0_0 a0_1 (l0_2.filter fun x => !p x)))) = some true := by
    intro k p hk hp hg
    obtain ⟨g1, g2, g3⟩ := hg
    have hK := GL.filter ⟨g2, g3⟩ (fun x => !p x)
    have hKl : (l0_2.filter fun x => !p x).length ≤ 8796093022000 := Nat.le_trans (List.length_filter_le _ _) hl
    have htl : ((l0_2.filter p).map (·.f1)).length ≤ 9223372036854775807 := by
      rw [List.length_map]
      exact Nat.le_trans (List.length_filter_le _ _) hl'
    have hj : interchangelaw15_TagsOnce.j1 (2 * l0_2.length + 300) a0_3 a0_4 true false a0_0 a0_1 (l0_2.filter fun x => !p x) = some true := by
      obtain ⟨m, hm⟩ : ∃ m, 2 * l0_2.length + 300 = m + 1 := ⟨2 * l0_2.length + 299, by omega⟩
      rw [hm]
      simp only [interchangelaw15_TagsOnce.j1]
      rw [if_neg (by simp)]
      have hnot : ¬ (∃ x ∈ (l0_2.filter fun x => !p x), x.f0 = a0_3) := by
        rintro ⟨x, hx, he⟩
        have hpx := (List.mem_filter.1 hx).2
        rcases hp with ⟨_, _, _, hp⟩ | ⟨_, _, hp⟩
        · simp [hp] at hpx
        · simp [hp, he] at hpx
      have e1 : tags_Settle.f a0_0 a0_1 (l0_2.filter fun x => !p x) a0_3 false = some (a0_0, a0_1, (l0_2.filter fun x => !p x), [], 13) := by
        rcases settle_cases a0_0 a0_1 (l0_2.filter fun x => !p x) a0_3 false hK.2 hKl with ⟨h, _⟩ | ⟨q, h, ⟨hm, _⟩ | ⟨_, hex, _⟩⟩
        · exact h
        · cases hm
        · exact absurd hex hnot
      rw [e1]
      simp only [Option.bind_some, if_true]
      rcases hp with ⟨hm, h0, hne, hp⟩ | ⟨hna, hex, hp⟩
      · have hKe : (l0_2.filter fun x => !p x) = [] := filt_none fun x _ => by simp [hp]
        rcases settle_cases a0_0 a0_1 (l0_2.filter fun x => !p x) a0_3 a0_4 hK.2 hKl with ⟨h, _⟩ | ⟨q, h, _⟩
        · rw [h]; simp [hm, h0, hKe]
        · rw [h]; simp [hm, h0, hKe]
      · have e2 : tags_Settle.f a0_0 a0_1 (l0_2.filter fun x => !p x) a0_3 a0_4 = some (a0_0, a0_1, (l0_2.filter fun x => !p x), [], 13) := by
          rcases settle_cases a0_0 a0_1 (l0_2.filter fun x => !p x) a0_3 a0_4 hK.2 hKl with ⟨h, _⟩ | ⟨q, h, ⟨hm, h0, _⟩ | ⟨_, hex, _⟩⟩
          · exact h
          · exact absurd ⟨hm, h0⟩ hna
          · exact absurd hex hnot
        rw [e2]
        simp only [Option.bind_some, if_true]
        by_cases c : a0_3 = 0
        · have : a0_4 = false := by
            cases h4 : a0_4
            · rfl
            · exact absurd ⟨h4, c⟩ hna
          simp [c, this]
        · simp [c]
    have fin : ∀ (x y : Int) (is has : Bool), (if is then (has == (((l0_2.filter p).map (·.f1)).any fun z => z == x)) || has && x != y else has) = false →
        interchangelaw15_TagsOnce.l0 k a0_3 a0_4 true ((l0_2.filter p).map (·.f1)) x is y has false 0 a0_0 a0_1 (l0_2.filter fun x => !p x) = some true := by
      intro x y is has hf
      rcases once_l0 a0_3 a0_4 ((l0_2.filter p).map (·.f1)) x y is has a0_0 a0_1 (l0_2.filter fun x => !p x) htl _ (2 * l0_2.length + 300) 0 false (by omega) (Nat.sub_zero _) with h | ⟨_, h⟩
      · rw [Int.natCast_zero, List.drop_zero, Bool.false_or, hf, hj] at h
        rw [hk]
        exact h
      · cases h
    rcases find_cases a0_0 a0_1 l0_2 a0_5 g3 with ⟨h, h'⟩ | ⟨x, hx, he, h⟩
    · have e : tags_Find.f a0_0 a0_1 (l0_2.filter fun x => !p x) a0_5 = some (0, false) := by
        rcases find_cases a0_0 a0_1 (l0_2.filter fun x => !p x) a0_5 hK.2 with ⟨h, _⟩ | ⟨x, hx, he, _⟩
        · exact h
        · exact absurd he (h' x (List.mem_filter.1 hx).1)
      rw [h, e]
      simp only [Option.bind_some]
      exact fin _ _ _ _ (by simp)
    · rw [h]
      simp only [Option.bind_some]
      have hin : (((l0_2.filter p).map (·.f1)).any fun z => z == x.f1) = p x := by
        rw [Bool.eq_iff_iff, List.any_eq_true]
        constructor
        · rintro ⟨z, hz, hze⟩
          obtain ⟨y, hy, rfl⟩ := List.mem_map.1 hz
          have hyl := List.mem_filter.1 hy
          have := uniq0 g3 hyl.1 hx (.inr (beq_iff_eq.1 hze))
          rw [← this]; exact hyl.2
        · intro hpx
          exact ⟨x.f1, List.mem_map.2 ⟨x, List.mem_filter.2 ⟨hx, hpx⟩, rfl⟩, by simp⟩
      rcases find_cases a0_0 a0_1 (l0_2.filter fun x => !p x) a0_5 hK.2 with ⟨e, e'⟩ | ⟨y, hy, hye, e⟩
      · rw [e]
        simp only [Option.bind_some]
        refine fin _ _ _ _ ?_
        rw [hin]
        cases hpx : p x
        · exact absurd he (e' x (List.mem_filter.2 ⟨hx, by simp [hpx]⟩))
        · simp
      · rw [e]
        simp only [Option.bind_some]
        have hyl := List.mem_filter.1 hy
        obtain rfl := uniq0 g3 hyl.1 hx (.inl (by omega))
        refine fin _ _ _ _ ?_
        rw [hin]
        have := hyl.2
        cases hpx : p y
        · simp
        · simp [hpx] at this
  by_cases hR : 1 ≤ a0_0 ∧ GL a0_0 a0_1 l0_2
  · rcases settle_cases a0_0 a0_1 l0_2 a0_3 a0_4 hR.2.2 hl with ⟨h, _⟩ | ⟨p, h, hp⟩
    · refine ⟨2 * l0_2.length + 300, ?_⟩
      unfold interchangelaw15_TagsOnce.f
      rw [interchangelaw15_shown_true, right_true a0_0 a0_1 l0_2 hl' _ (by omega) hR.1 hR.2]
      simp only [Option.bind_some, if_true]
      rw [h]
      simp
    · refine ⟨((l0_2.filter p).map (·.f1)).length + 1 + (2 * l0_2.length + 300), ?_⟩
      unfold interchangelaw15_TagsOnce.f
      rw [interchangelaw15_shown_true, right_true a0_0 a0_1 l0_2 hl' _ ?_ hR.1 hR.2]
      simp only [Option.bind_some, if_true]
      rw [h]
      simp only [Option.bind_some, if_true]
      exact main _ p rfl hp hR
      omega
  · obtain ⟨b, hr, hg⟩ := right_ok a0_0 a0_1 l0_2 hl' (2 * l0_2.length + 300) (by omega)
    refine ⟨2 * l0_2.length + 300, ?_⟩
    unfold interchangelaw15_TagsOnce.f
    rw [interchangelaw15_shown_true, hr]
    simp only [Option.bind_some]
    cases b
    · simp
    · exact absurd (hg.1 rfl) hR

end Go.Proofs.Ytoljcjlflanflaa.Pure
