/- BeatSets's plain law: what was set is there, once; what was dropped isn't; all others are. -/
import Derived.Test.YteomnodigfcfeaaQ5
import Derived.Test.YteomnodigfcfeaaL26
namespace Go.Proofs.Yteomnodigfcfeaa.Pure
open Go.RowKit Go.Proofs.Yteomnodigfcfeaa.Q Go.Proofs.YteomnodigfcfeaaW.PrintWords Go.Proofs.YteomnodigfcfeaaW.PrintLast Go.Proofs.YteomnodigfcfeaaW.PrintMore
set_option linter.unusedVariables false
set_option linter.unusedSimpArgs false

theorem sets_l0 (l s k0 : List S24) (d : S24) (other : Int) (hn : s.length ≤ 300) (hs : ∀ x ∈ s, x.f1 = d.f1 → x = d) (dd : Nat) : ∀ (m n : Nat), n ≤ s.length → s.length - n = dd →
    interchangelaw12_BeatSets.l0 (dd + 1 + m) l other true s k0 (((s.take n).filter fun x => x.f1 == d.f1).length : Int) (((s.take n).filter fun x => x.f1 == other).length : Int) 0 (n : Int) d.f0 d.f1 =
      interchangelaw12_BeatSets.l1 m l other true s k0 ((s.filter fun x => x.f1 == d.f1).length : Int) ((s.filter fun x => x.f1 == other).length : Int) 0 0 d.f0 d.f1 := by
  induction dd with
  | zero =>
    intro m n h1 hd
    obtain rfl : n = s.length := by omega
    rw [show 0 + 1 + m = m + 1 by omega]
    simp only [interchangelaw12_BeatSets.l0]
    rw [if_neg (by omega), List.take_length]
  | succ dd ih =>
    intro m n h1 hd
    have hlt : n < s.length := by omega
    have htk : s.take (n + 1) = s.take n ++ [s[n]] := List.take_succ_eq_append_getElem hlt
    have hc1 : ((s.take n).filter fun x => x.f1 == d.f1).length < s.length := by
      have := List.length_filter_le (fun x : S24 => x.f1 == d.f1) (s.take n)
      rw [List.length_take] at this
      omega
    have hc2 : ((s.take n).filter fun x => x.f1 == other).length < s.length := by
      have := List.length_filter_le (fun x : S24 => x.f1 == other) (s.take n)
      rw [List.length_take] at this
      omega
    rw [show dd + 1 + 1 + m = (dd + 1 + m) + 1 by omega]
    have hih := ih m (n + 1) (by omega) (by omega)
    rw [htk, List.filter_append, List.filter_append] at hih
    have hw0 := Aside0.mk (wrapN hlt (by omega))
    have hw1 := Aside0.mk (wrapN hc1 (by omega))
    have hw2 := Aside0.mk (wrapN hc2 (by omega))
    simp only [interchangelaw12_BeatSets.l0]
    rw [if_pos (by omega), if_pos (by omega), rdT_nat s n hlt, hw0.out, hw1.out, hw2.out]
    by_cases c : s[n].f1 = d.f1
    · have e := hs _ (List.getElem_mem hlt) c
      rw [if_pos c, if_neg (by rw [e]; simp)]
      rw [show ([s[n]].filter fun x => x.f1 == d.f1) = [s[n]] by simp [c], List.length_append] at hih
      by_cases c2 : s[n].f1 = other
      · rw [if_pos c2]
        rw [show ([s[n]].filter fun x => x.f1 == other) = [s[n]] by simp [c2], List.length_append] at hih
        exact hih
      · rw [if_neg c2]
        rw [show ([s[n]].filter fun x => x.f1 == other) = [] by simp [c2], List.append_nil] at hih
        exact hih
    · rw [if_neg c]
      rw [show ([s[n]].filter fun x => x.f1 == d.f1) = [] by simp [c], List.append_nil] at hih
      by_cases c2 : s[n].f1 = other
      · rw [if_pos c2]
        rw [show ([s[n]].filter fun x => x.f1 == other) = [s[n]] by simp [c2], List.length_append] at hih
        exact hih
      · rw [if_neg c2]
        rw [show ([s[n]].filter fun x => x.f1 == other) = [] by simp [c2], List.append_nil] at hih
        exact hih
theorem sets_l1 (l s k0 : List S24) (id f0 : Int) (other : Int) (many : Nat) (hn : l.length ≤ 300) (hsn : s.length ≤ 300) (hk : k0.length + 1 = s.length) (hm : other = id ∨ many = (l.filter fun x => x.f1 == other).length) (dd : Nat) : ∀ (k n : Nat), n ≤ l.length → l.length - n = dd → dd < k →
    interchangelaw12_BeatSets.l1 k l other true s k0 ((1 : Nat) : Int) (many : Int) (((l.take n).filter fun x => x.f1 == other).length : Int) (n : Int) f0 id = some true := by
  induction dd with
  | zero =>
    intro k n h1 hd hk'
    obtain ⟨k, rfl⟩ : ∃ m, k = m + 1 := ⟨k - 1, by omega⟩
    obtain rfl : n = l.length := by omega
    have hw := Aside0.mk (wrapP (n := s.length) (by omega) (by omega))
    simp only [interchangelaw12_BeatSets.l1]
    rw [if_neg (by omega), if_pos trivial, if_pos (by omega), hw.out, if_pos (by omega), List.take_length]
    by_cases c : other = id
    · rw [if_pos c]
    · rw [if_neg c]
      rcases hm with h | h
      · exact absurd h c
      · rw [h]; simp
  | succ dd ih =>
    intro k n h1 hd hk'
    obtain ⟨k, rfl⟩ : ∃ m, k = m + 1 := ⟨k - 1, by omega⟩
    have hlt : n < l.length := by omega
    have htk : l.take (n + 1) = l.take n ++ [l[n]] := List.take_succ_eq_append_getElem hlt
    have hc2 : ((l.take n).filter fun x => x.f1 == other).length < l.length := by
      have := List.length_filter_le (fun x : S24 => x.f1 == other) (l.take n)
      rw [List.length_take] at this
      omega
    have hih := ih k (n + 1) (by omega) (by omega) (by omega)
    rw [htk, List.filter_append] at hih
    have hw0 := Aside0.mk (wrapN hlt (by omega))
    have hw2 := Aside0.mk (wrapN hc2 (by omega))
    simp only [interchangelaw12_BeatSets.l1]
    rw [if_pos (by omega), if_pos (by omega), rdT_nat l n hlt, hw0.out, hw2.out]
    by_cases c2 : l[n].f1 = other
    · rw [if_pos c2]
      rw [show ([l[n]].filter fun x => x.f1 == other) = [l[n]] by simp [c2], List.length_append] at hih
      exact hih
    · rw [if_neg c2]
      rw [show ([l[n]].filter fun x => x.f1 == other) = [] by simp [c2], List.append_nil] at hih
      exact hih

theorem BeatSets (l0 : List S24) (hb : l0.length * 16 ≤ 140737488351232) (hw : ∀ x ∈ l0, (Lit.int .i64 x.f0).wf = true ∧ (Lit.int .i64 x.f1).wf = true) (a1_0 : Int) (w1 : (Lit.int .i64 a1_0).wf = true) (a1_1 : Int) (w2 : (Lit.int .i64 a1_1).wf = true) (a2 : Int) (w3 : (Lit.int .i64 a2).wf = true) : ∃ k, interchangelaw12_BeatSets.f k l0 a1_0 a1_1 a2 = some true := by
  by_cases c : (l0.length : Int) > 200
  · refine ⟨0, ?_⟩
    unfold interchangelaw12_BeatSets.f
    rw [interchangelaw12_shown_true]
    simp only [Option.bind_some]
    rw [if_pos c]
  obtain ⟨hp, hs⟩ := sortedL_spec l0
  obtain ⟨t, ht⟩ : ∃ t, ((sortedL l0).filter fun x => !(x.f1 == a1_1)) = t := ⟨_, rfl⟩
  have htl : t.length ≤ l0.length := by rw [← ht]; exact Nat.le_trans (List.length_filter_le _ _) (by rw [sortedL_length]; exact Nat.le_refl _)
  obtain ⟨d, hd⟩ : ∃ d : S24, (⟨a1_0, a1_1⟩ : S24) = d := ⟨_, rfl⟩
  obtain ⟨s, hss⟩ : ∃ s, sortedL (t ++ [d]) = s := ⟨_, rfl⟩
  obtain ⟨hp2, hs2⟩ := sortedL_spec (t ++ [d])
  rw [hss] at hp2 hs2
  have hsl : s.length = t.length + 1 := by rw [hp2.length_eq]; simp
  have hd0 : d.f0 = a1_0 := by rw [← hd]
  have hd1 : d.f1 = a1_1 := by rw [← hd]
  have hone : ∀ x ∈ s, x.f1 = d.f1 → x = d := by
    intro x hx he
    rcases List.mem_append.1 (hp2.mem_iff.1 hx) with h | h
    · rw [← ht] at h
      have := (List.mem_filter.1 h).2
      rw [hd1] at he
      simp [he] at this
    · exact List.mem_singleton.1 h
  have hfd : (s.filter fun x => x.f1 == d.f1).length = 1 := by
    rw [(hp2.filter _).length_eq, List.filter_append]
    have e1 : (t.filter fun x => x.f1 == d.f1) = [] := by
      rw [List.filter_eq_nil_iff]
      intro x hx
      rw [← ht] at hx
      have := (List.mem_filter.1 hx).2
      rw [hd1]
      simpa using this
    rw [e1]
    simp
  have hk : ((sortedL s).filter fun x => !(x.f1 == a1_1)).length + 1 = s.length := by
    have h1 := filt_len (fun x => x.f1 == a1_1) (sortedL s)
    rw [sortedL_of s hs2] at h1 ⊢
    rw [hd1] at hfd
    omega
  have hmany : a2 = a1_1 ∨ (s.filter fun x => x.f1 == a2).length = (l0.filter fun x => x.f1 == a2).length := by
    by_cases e : a2 = a1_1
    · exact .inl e
    · right
      rw [(hp2.filter _).length_eq, List.filter_append, ← (hp.filter _).length_eq, ← ht, List.filter_filter]
      have e1 : ([d].filter fun x => x.f1 == a2) = [] := by
        rw [List.filter_cons, if_neg (by rw [hd1]; simp; exact fun h => e h.symm)]
        rfl
      rw [e1, List.append_nil]
      congr 1
      refine List.filter_congr (fun x _ => ?_)
      rw [Bool.eq_iff_iff]
      simp
      intro h1
      rw [h1]
      exact e
  refine ⟨s.length + 1 + (l0.length + 1), ?_⟩
  unfold interchangelaw12_BeatSets.f
  rw [interchangelaw12_shown_true]
  simp only [Option.bind_some]
  rw [if_neg c]
  unfold beat_Set.f
  rw [drop_ok l0 a1_1 (by omega), ht]
  simp only [Option.bind_some]
  rw [if_pos (by omega), hd, hss]
  simp only [Option.bind_some]
  rw [drop_ok s a1_1 (by omega)]
  simp only [Option.bind_some]
  have h0 := sets_l0 l0 s ((sortedL s).filter fun x => !(x.f1 == a1_1)) d a2 (by omega) hone s.length (l0.length + 1) 0 (by omega) (by omega)
  rw [List.take_zero, hfd, hd0, hd1] at h0
  have h1 := sets_l1 l0 s ((sortedL s).filter fun x => !(x.f1 == a1_1)) a1_1 a1_0 a2 _ (by omega) (by omega) hk hmany l0.length (l0.length + 1) 0 (by omega) (by omega) (by omega)
  rw [List.take_zero] at h1
  have h2 := h0.trans h1
  exact h2
end Go.Proofs.Yteomnodigfcfeaa.Pure
