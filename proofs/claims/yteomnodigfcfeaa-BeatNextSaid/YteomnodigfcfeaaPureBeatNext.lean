/- BeatNext's plain law: what is due first is due first of all; it is taken first. -/
import Derived.Test.YteomnodigfcfeaaQ6
import Derived.Test.YteomnodigfcfeaaL26
namespace Go.Proofs.Yteomnodigfcfeaa.Pure
open Go.RowKit Go.Proofs.Yteomnodigfcfeaa.Q Go.Proofs.YteomnodigfcfeaaW.PrintWords Go.Proofs.YteomnodigfcfeaaW.PrintLast Go.Proofs.YteomnodigfcfeaaW.PrintMore
set_option linter.unusedVariables false
set_option linter.unusedSimpArgs false

theorem next_l0 (l : List S24) (m : S24) (hn : l.length ≤ 200) (hmin : ∀ x ∈ l, leS m x) (hm : m ∈ l) (d : Nat) : ∀ (k n : Nat) (b : Bool), n ≤ l.length → l.length - n = d → d < k → (b = true ∨ m ∈ l.drop n) →
    interchangelaw12_BeatNext.l0 k l true true b (n : Int) m.f0 m.f1 = some true := by
  induction d with
  | zero =>
    intro k n b h1 hd hk hb
    obtain ⟨k, rfl⟩ : ∃ m, k = m + 1 := ⟨k - 1, by omega⟩
    obtain rfl : n = l.length := by omega
    obtain rfl : b = true := by
      rcases hb with h | h
      · exact h
      · rw [List.drop_length] at h; cases h
    simp only [interchangelaw12_BeatNext.l0]
    rw [if_neg (by omega), take_ok l m.f0 (by omega)]
    obtain ⟨hp, hs⟩ := sortedL_spec l
    simp only [Option.bind_some]
    cases hS : sortedL l with
    | nil =>
      rw [hS] at hp
      exact absurd (hp.mem_iff.2 hm) (by simp)
    | cons x s =>
      rw [hS] at hp hs
      rw [List.pairwise_cons] at hs
      have hxm : x = m := by
        have h2 : leS m x := hmin x (hp.mem_iff.1 List.mem_cons_self)
        rcases List.mem_cons.1 (hp.mem_iff.2 hm) with e | e
        · exact e.symm
        · exact leS_antisymm (hs.1 m e) h2
      subst hxm
      have e : ((x :: s).filter fun y => decide (y.f0 ≤ x.f0)).map (·.f1) = x.f1 :: (s.filter fun y => decide (y.f0 ≤ x.f0)).map (·.f1) := by
        rw [List.filter_cons, if_pos (by simp)]
        rfl
      rw [e]
      rw [if_pos trivial, if_pos trivial, if_pos trivial, if_pos (by rw [List.length_cons]; omega), if_pos (by rw [List.length_cons]; omega)]
      simp [rd]
  | succ d ih =>
    intro k n b h1 hd hk hb
    obtain ⟨k, rfl⟩ : ∃ m, k = m + 1 := ⟨k - 1, by omega⟩
    have hlt : n < l.length := by omega
    have hdr : l.drop n = l[n] :: l.drop (n + 1) := List.drop_eq_getElem_cons hlt
    have hle := (leS_iff _ _).1 (hmin _ (List.getElem_mem hlt))
    have hw := Aside0.mk (wrapN hlt (by omega : l.length ≤ 9223372036854775807))
    simp only [interchangelaw12_BeatNext.l0]
    rw [if_pos (by omega)]
    have hstep : ∀ b', (b' = true ∨ m ∈ l.drop (n + 1)) → (if l[n].f0 < m.f0 then some false else (if l[n].f0 = m.f0 then (if l[n].f1 < m.f1 then some false else (interchangelaw12_BeatNext.l0 k l true true b' (wrap64 ((n : Int) + 1)) m.f0 m.f1)) else (interchangelaw12_BeatNext.l0 k l true true b' (wrap64 ((n : Int) + 1)) m.f0 m.f1))) = some true := by
      intro b' hb'
      have hnx := ih k (n + 1) b' (by omega) (by omega) (by omega) hb'
      rw [hw.out, if_neg (by omega)]
      by_cases c : l[n].f0 = m.f0
      · rw [if_pos c, if_neg (by omega)]; exact hnx
      · rw [if_neg c]; exact hnx
    cases b
    · rw [if_neg (by simp), if_pos (by omega), rdT_nat l n hlt]
      refine hstep _ ?_
      rcases hb with h | h
      · cases h
      · rw [hdr] at h
        rcases List.mem_cons.1 h with e | e
        · left; rw [← e]; simp
        · exact .inr e
    · rw [if_pos rfl, if_pos (by omega), rdT_nat l n hlt]
      exact hstep true (.inl rfl)

theorem BeatNext (l0 : List S24) (hb : l0.length * 16 ≤ 140737488351232) (hw : ∀ x ∈ l0, (Lit.int .i64 x.f0).wf = true ∧ (Lit.int .i64 x.f1).wf = true) : ∃ k, interchangelaw12_BeatNext.f k l0 = some true := by
  obtain ⟨k, hk⟩ : ∃ k, l0.length + 1 < k := ⟨_, Nat.lt_succ_self _⟩
  refine ⟨k + 1, ?_⟩
  unfold interchangelaw12_BeatNext.f
  rw [interchangelaw12_shown_true]
  simp only [Option.bind_some]
  unfold beat_Next.f
  by_cases c : l0.length = 0
  · rw [if_pos c]
    simp only [Option.bind_some]
    rw [if_pos (by omega)]
    simp only [interchangelaw12_BeatNext.j0]
    rw [if_pos trivial, if_pos trivial, if_neg (by omega)]
    rfl
  · rw [if_neg c]
    simp only [Option.bind_some]
    rw [if_neg (by omega)]
    simp only [interchangelaw12_BeatNext.j0]
    by_cases c2 : (l0.length : Int) > 200
    · rw [if_pos (by simpa using c2), if_pos trivial, if_pos c2]
    · rw [if_neg (by simpa using c2)]
      have hlt := minI_lt l0 (by omega) l0.length (Nat.le_refl _)
      have hmm : l0.getD (minI l0 l0.length) z24 ∈ l0 := by
        rw [getD_lt l0 _ hlt]
        exact List.getElem_mem hlt
      refine next_l0 l0 (l0.getD (minI l0 l0.length) z24) (by omega) (fun x hx => ?_) hmm l0.length k 0 false (by omega) (by omega) (by omega) (.inr hmm)
      obtain ⟨i, hi, rfl⟩ := List.getElem_of_mem hx
      have := minI_spec l0 l0.length (Nat.le_refl _) i hi
      rw [getD_lt l0 i hi] at this
      exact this
end Go.Proofs.Yteomnodigfcfeaa.Pure
