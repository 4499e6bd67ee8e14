/- BeatDues's plain law: what is set, dropped, due first, and taken, is as the document says. -/
import Derived.Test.YteomnodigfcfeaaQ3
import Derived.Test.YteomnodigfcfeaaL26
namespace Go.Proofs.Yteomnodigfcfeaa.Pure
open Go.RowKit Go.Proofs.Yteomnodigfcfeaa.Q Go.Proofs.YteomnodigfcfeaaW.PrintWords Go.Proofs.YteomnodigfcfeaaW.PrintLast Go.Proofs.YteomnodigfcfeaaW.PrintMore
set_option linter.unusedVariables false
set_option linter.unusedSimpArgs false

def insL (x : S24) : List S24 → List S24
  | [] => [x]
  | y :: s => if ltD x y = true then x :: y :: s else y :: insL x s
theorem insL_perm (x : S24) : ∀ s, (insL x s).Perm (x :: s)
  | [] => .refl _
  | y :: s => by
    simp only [insL]
    split
    · exact .refl _
    · exact ((insL_perm x s).cons y).trans (.swap x y s)
theorem insL_sorted (x : S24) : ∀ s, s.Pairwise leS → (insL x s).Pairwise leS
  | [], _ => by simp [insL]
  | y :: s, h => by
    have h2 := h
    rw [List.pairwise_cons] at h2
    simp only [insL]
    cases hb : ltD x y
    · rw [if_neg (by simp), List.pairwise_cons]
      refine ⟨fun z hz => ?_, insL_sorted x s h2.2⟩
      rcases List.mem_cons.1 ((insL_perm x s).mem_iff.1 hz) with e | e
      · subst e; exact hb
      · exact h2.1 z e
    · rw [if_pos rfl, List.pairwise_cons]
      refine ⟨fun z hz => ?_, h⟩
      rcases List.mem_cons.1 hz with e | e
      · subst e; exact leS_of_lt hb
      · exact leS_trans (leS_of_lt hb) (h2.1 z e)
theorem fold_ins : ∀ (l out : List S24), out.Pairwise leS → (l.foldl (fun o x => insL x o) out).Pairwise leS ∧ (l.foldl (fun o x => insL x o) out).Perm (l ++ out)
  | [], out, h => ⟨h, .refl _⟩
  | x :: l, out, h => by
    obtain ⟨h1, h2⟩ := fold_ins l (insL x out) (insL_sorted x out h)
    refine ⟨h1, h2.trans (((insL_perm x out).append_left l).trans ?_)⟩
    exact List.perm_middle
theorem fold_sorted (l : List S24) : l.foldl (fun o x => insL x o) [] = sortedL l := by
  obtain ⟨h1, h2⟩ := fold_ins l [] List.Pairwise.nil
  rw [List.append_nil] at h2
  exact sorted_unique _ _ (h2.trans (sortedL_spec l).1.symm) h1 (sortedL_spec l).2
theorem less_ok (a b : S24) : interchangeref12_less.f a.f0 a.f1 b.f0 b.f1 = some (ltD a b) := by
  unfold interchangeref12_less.f ltD
  by_cases c : a.f0 < b.f0
  · rw [if_pos c, if_neg (by omega)]; simp [c]
  · rw [if_neg c]
    by_cases e : a.f0 = b.f0
    · rw [if_pos e, if_pos e]
    · rw [if_neg e, if_neg e]; simp [c]
theorem ord_l1 (l : List S24) (n K : Nat) (T : List S24) (hn : n < l.length) (hl : l.length ≤ 300) : ∀ (B A : List S24), (A ++ B).length ≤ 300 → (∀ k, K ≤ k → interchangeref12_Ordered.l0 k l (A ++ insL l[n] B) ((n + 1 : Nat) : Int) = some T) →
    ∀ k, K + B.length + 1 ≤ k → interchangeref12_Ordered.l1 k l (A ++ B) (n : Int) (A.length : Int) = some T
  | [], A, hAB, hT, k, hk => by
    obtain ⟨k, rfl⟩ : ∃ m, k = m + 1 := ⟨k - 1, by omega⟩
    have h := hT k (by simp at hk; omega)
    have hw := Aside0.mk (wrapN hn (by omega))
    rw [List.append_nil] at hAB ⊢
    simp only [interchangeref12_Ordered.l1]
    rw [if_neg (by omega)]
    simp only [Option.bind_some]
    rw [if_pos (by omega), if_pos (by omega), if_pos (by simp; omega), if_pos (by omega), if_pos (by omega), if_pos (by simp; omega), if_pos (by simp; omega), hw.out, rdT_nat l n hn]
    simpa [insL] using h
  | y :: B, A, hAB, hT, k, hk => by
    obtain ⟨k, rfl⟩ : ∃ m, k = m + 1 := ⟨k - 1, by omega⟩
    rw [List.length_cons] at hk
    have hlen : (A ++ y :: B).length = A.length + B.length + 1 := by simp; omega
    have hlt : A.length < (A ++ y :: B).length := by omega
    have hat : (A ++ y :: B)[A.length] = y := by simp
    have hw := Aside0.mk (wrapN hn (by omega))
    have hwa := Aside0.mk (wrapN hlt (by omega))
    simp only [interchangeref12_Ordered.l1]
    rw [if_pos (by omega), if_pos (by omega), if_pos (by omega), if_pos (by omega), rdT_nat l n hn, rdT_nat _ A.length hlt, hat, less_ok]
    simp only [Option.bind_some]
    cases hb : ltD l[n] y
    · rw [if_neg (by simp), hwa.out]
      have h := ord_l1 l n K T hn hl B (A ++ [y]) (by simp at hAB ⊢; omega) (fun k' hk' => by
        have h := hT k' hk'
        simp only [insL] at h
        rw [hb, if_neg (by simp)] at h
        simpa using h) k (by omega)
      simpa using h
    · rw [if_pos rfl, if_pos (by omega), if_pos (by simp; omega), if_pos (by simp; omega), if_pos (by simp; omega), hw.out]
      have h := hT k (by omega)
      simp only [insL] at h
      rw [hb, if_pos rfl] at h
      simpa using h
theorem ord_l0 (l : List S24) (hl : l.length ≤ 300) (e : Nat) : ∀ (n : Nat) (out : List S24), n ≤ l.length → l.length - n = e → out.length ≤ n →
    ∃ K, ∀ k, K ≤ k → interchangeref12_Ordered.l0 k l out (n : Int) = some ((l.drop n).foldl (fun o x => insL x o) out) := by
  induction e with
  | zero =>
    intro n out h1 hd ho
    refine ⟨1, fun k hk => ?_⟩
    obtain ⟨k, rfl⟩ : ∃ m, k = m + 1 := ⟨k - 1, by omega⟩
    obtain rfl : n = l.length := by omega
    simp only [interchangeref12_Ordered.l0]
    rw [if_neg (by omega), List.drop_length]
    rfl
  | succ e ih =>
    intro n out h1 hd ho
    have hlt : n < l.length := by omega
    have hdr : l.drop n = l[n] :: l.drop (n + 1) := List.drop_eq_getElem_cons hlt
    obtain ⟨K, hK⟩ := ih (n + 1) (insL l[n] out) (by omega) (by omega) (by rw [(insL_perm _ _).length_eq]; simp; omega)
    refine ⟨K + out.length + 2, fun k hk => ?_⟩
    obtain ⟨k, rfl⟩ : ∃ m, k = m + 1 := ⟨k - 1, by omega⟩
    simp only [interchangeref12_Ordered.l0]
    rw [if_pos (by omega), hdr, List.foldl_cons]
    have h := ord_l1 l n K _ hlt hl out [] (by simp; omega) (fun k' hk' => by simpa using hK k' hk') k (by omega)
    simpa using h
theorem ordered_ok (l : List S24) (hl : l.length ≤ 300) : ∃ K, ∀ k, K ≤ k → interchangeref12_Ordered.f k l = some (sortedL l) := by
  obtain ⟨K, h⟩ := ord_l0 l hl l.length 0 [] (by omega) (by omega) (by simp)
  refine ⟨K, fun k hk => ?_⟩
  have := h k hk
  rw [List.drop_zero, fold_sorted] at this
  exact this
theorem rdrop_l0 (l : List S24) (id : Int) (K : Nat) (hl : l.length ≤ 300) (hK : ∀ k, K ≤ k → interchangeref12_Ordered.f k (l.filter fun x => !(x.f1 == id)) = some (sortedL (l.filter fun x => !(x.f1 == id)))) (e : Nat) : ∀ (n k : Nat), n ≤ l.length → l.length - n = e → K + e + 1 ≤ k →
    interchangeref12_Drop.l0 k l id ((l.take n).filter fun x => !(x.f1 == id)) (n : Int) = some (sortedL (l.filter fun x => !(x.f1 == id))) := by
  induction e with
  | zero =>
    intro n k h1 hd hk
    obtain ⟨k, rfl⟩ : ∃ m, k = m + 1 := ⟨k - 1, by omega⟩
    obtain rfl : n = l.length := by omega
    simp only [interchangeref12_Drop.l0]
    rw [if_neg (by omega), List.take_length, hK k (by omega)]
    rfl
  | succ e ih =>
    intro n k h1 hd hk
    obtain ⟨k, rfl⟩ : ∃ m, k = m + 1 := ⟨k - 1, by omega⟩
    have hlt : n < l.length := by omega
    have htk : l.take (n + 1) = l.take n ++ [l[n]] := List.take_succ_eq_append_getElem hlt
    have hc := List.length_filter_le (fun x : S24 => !(x.f1 == id)) (l.take n)
    rw [List.length_take] at hc
    have hw := Aside0.mk (wrapN hlt (by omega))
    have hih := ih (n + 1) k (by omega) (by omega) (by omega)
    rw [htk, List.filter_append] at hih
    simp only [interchangeref12_Drop.l0]
    rw [if_pos (by omega), if_pos (by omega), rdT_nat l n hlt, hw.out]
    by_cases c : l[n].f1 = id
    · rw [if_pos c]
      rw [show ([l[n]].filter fun x => !(x.f1 == id)) = [] by simp [c], List.append_nil] at hih
      exact hih
    · rw [if_neg c, if_pos (by omega)]
      rw [show ([l[n]].filter fun x => !(x.f1 == id)) = [l[n]] by simp [c]] at hih
      exact hih
theorem rdrop_ok (l : List S24) (id : Int) (hl : l.length ≤ 300) : ∃ K, ∀ k, K ≤ k → interchangeref12_Drop.f k l id = some ((sortedL l).filter fun x => !(x.f1 == id)) := by
  obtain ⟨K, hK⟩ := ordered_ok (l.filter fun x => !(x.f1 == id)) (Nat.le_trans (List.length_filter_le _ _) hl)
  refine ⟨K + l.length + 1, fun k hk => ?_⟩
  have h := rdrop_l0 l id K hl hK l.length 0 k (by omega) (by omega) hk
  have e : sortedL (l.filter fun x => !(x.f1 == id)) = (sortedL l).filter fun x => !(x.f1 == id) :=
    sorted_unique _ _ ((sortedL_spec _).1.trans ((sortedL_spec l).1.filter _).symm) (sortedL_spec _).2 ((sortedL_spec l).2.filter _)
  rw [← e]
  exact h
theorem rtake_l0 (S : List S24) (a : Int) (hl : S.length ≤ 300) (e : Nat) : ∀ (n k : Nat), n ≤ S.length → S.length - n = e → e < k →
    interchangeref12_Take.l0 k a S (((S.take n).filter fun x => decide (x.f0 ≤ a)).map (·.f1)) ((S.take n).filter fun x => !decide (x.f0 ≤ a)) (n : Int) = some (S.filter (fun x => !decide (x.f0 ≤ a)), (S.filter fun x => decide (x.f0 ≤ a)).map (·.f1)) := by
  induction e with
  | zero =>
    intro n k h1 hd hk
    obtain ⟨k, rfl⟩ : ∃ m, k = m + 1 := ⟨k - 1, by omega⟩
    obtain rfl : n = S.length := by omega
    simp only [interchangeref12_Take.l0]
    rw [if_neg (by omega), List.take_length]
  | succ e ih =>
    intro n k h1 hd hk
    obtain ⟨k, rfl⟩ : ∃ m, k = m + 1 := ⟨k - 1, by omega⟩
    have hlt : n < S.length := by omega
    have htk : S.take (n + 1) = S.take n ++ [S[n]] := List.take_succ_eq_append_getElem hlt
    have hc := List.length_filter_le (fun x : S24 => !decide (x.f0 ≤ a)) (S.take n)
    have hc2 := List.length_filter_le (fun x : S24 => decide (x.f0 ≤ a)) (S.take n)
    rw [List.length_take] at hc hc2
    have hw := Aside0.mk (wrapN hlt (by omega))
    have hih := ih (n + 1) k (by omega) (by omega) (by omega)
    rw [htk, List.filter_append, List.filter_append, List.map_append] at hih
    simp only [interchangeref12_Take.l0]
    rw [if_pos (by omega), if_pos (by omega), rdT_nat S n hlt, hw.out]
    by_cases c : S[n].f0 ≤ a
    · rw [if_pos c, if_pos (by rw [List.length_map]; omega)]
      rw [show ([S[n]].filter fun x => decide (x.f0 ≤ a)) = [S[n]] by simp [c], show ([S[n]].filter fun x => !decide (x.f0 ≤ a)) = [] by simp [c], List.append_nil] at hih
      exact hih
    · rw [if_neg c, if_pos (by omega)]
      rw [show ([S[n]].filter fun x => decide (x.f0 ≤ a)) = [] by simp [c], show ([S[n]].filter fun x => !decide (x.f0 ≤ a)) = [S[n]] by simp [c], List.map_nil, List.append_nil] at hih
      exact hih
theorem rtake_ok (l : List S24) (a : Int) (hl : l.length ≤ 300) : ∃ K, ∀ k, K ≤ k → interchangeref12_Take.f k l a = some ((sortedL l).filter (fun x => !decide (x.f0 ≤ a)), ((sortedL l).filter fun x => decide (x.f0 ≤ a)).map (·.f1)) := by
  obtain ⟨K, hK⟩ := ordered_ok l hl
  refine ⟨K + l.length + 1, fun k hk => ?_⟩
  unfold interchangeref12_Take.f
  rw [hK k (by omega)]
  simp only [Option.bind_some]
  exact rtake_l0 (sortedL l) a (by rw [sortedL_length]; exact hl) l.length 0 k (by omega) (by rw [sortedL_length]; omega) (by omega)
theorem rset_ok (l : List S24) (d : S24) (hl : l.length ≤ 200) : ∃ K, ∀ k, K ≤ k → interchangeref12_Set.f k l d.f0 d.f1 = some (sortedL (((sortedL l).filter fun x => !(x.f1 == d.f1)) ++ [d])) := by
  obtain ⟨K1, h1⟩ := rdrop_ok l d.f1 (by omega)
  have hlen : ((sortedL l).filter fun x => !(x.f1 == d.f1)).length ≤ 200 := Nat.le_trans (List.length_filter_le _ _) (by rw [sortedL_length]; exact hl)
  obtain ⟨K2, h2⟩ := ordered_ok (((sortedL l).filter fun x => !(x.f1 == d.f1)) ++ [d]) (by simp at hlen ⊢; omega)
  refine ⟨K1 + K2, fun k hk => ?_⟩
  unfold interchangeref12_Set.f
  rw [h1 k (by omega)]
  simp only [Option.bind_some]
  rw [if_pos (by simp at hlen ⊢; omega)]
  have e : ([(⟨d.f0, d.f1⟩ : S24)] : List S24) = [d] := rfl
  rw [e, h2 k (by omega)]
  rfl
theorem next_eq (l : List S24) (hl : l.length ≤ 300) (hpos : 0 < l.length) : ∃ x s, sortedL l = x :: s ∧ l.getD (minI l l.length) z24 = x := by
  obtain ⟨hp, hs⟩ := sortedL_spec l
  cases hS : sortedL l with
  | nil =>
    have := sortedL_length l
    rw [hS] at this
    simp at this
    omega
  | cons x s =>
    refine ⟨x, s, rfl, ?_⟩
    rw [hS] at hp hs
    rw [List.pairwise_cons] at hs
    have hlt := minI_lt l hpos l.length (Nat.le_refl _)
    have hmm : l.getD (minI l l.length) z24 ∈ l := by
      rw [getD_lt l _ hlt]
      exact List.getElem_mem hlt
    have hx : x ∈ l := hp.mem_iff.1 List.mem_cons_self
    obtain ⟨i, hi, rfl⟩ := List.getElem_of_mem hx
    have h1 := minI_spec l l.length (Nat.le_refl _) i hi
    rw [getD_lt l i hi] at h1
    rcases List.mem_cons.1 (hp.mem_iff.2 hmm) with e | e
    · exact e
    · exact leS_antisymm h1 (hs.1 _ e)
theorem dsame_l0 (l : List S24) (hn : l.length ≤ 9223372036854775807) (d : Nat) : ∀ (k n : Nat), n ≤ l.length → l.length - n = d → d < k → interchangeref12_Same.l0 k l l (n : Int) = some true := by
  induction d with
  | zero =>
    intro k n h1 hd hk
    obtain ⟨k, rfl⟩ : ∃ m, k = m + 1 := ⟨k - 1, by omega⟩
    simp only [interchangeref12_Same.l0]
    rw [if_neg (by omega)]
  | succ d ih =>
    intro k n h1 hd hk
    obtain ⟨k, rfl⟩ : ∃ m, k = m + 1 := ⟨k - 1, by omega⟩
    have hlt : n < l.length := by omega
    simp only [interchangeref12_Same.l0]
    rw [if_pos (by omega), if_pos (by omega), if_pos (by omega), if_neg (by simp), wrapN hlt hn]
    exact ih k (n + 1) (by omega) (by omega) (by omega)
theorem dsame_refl (l : List S24) (hn : l.length ≤ 300) (k : Nat) (hk : 300 < k) : interchangeref12_Same.f k l l = some true := by
  unfold interchangeref12_Same.f
  rw [if_pos rfl]
  have h := dsame_l0 l (by omega) l.length k 0 (by omega) (by omega) (by omega)
  rwa [Int.natCast_zero] at h
theorem ints_l0 (l : List Int) (hn : l.length ≤ 9223372036854775807) (d : Nat) : ∀ (k n : Nat), n ≤ l.length → l.length - n = d → d < k → interchangeref05_Ints.l0 k l l (n : Int) = some true := by
  induction d with
  | zero =>
    intro k n h1 hd hk
    obtain ⟨k, rfl⟩ : ∃ m, k = m + 1 := ⟨k - 1, by omega⟩
    simp only [interchangeref05_Ints.l0]
    rw [if_neg (by omega)]
  | succ d ih =>
    intro k n h1 hd hk
    obtain ⟨k, rfl⟩ : ∃ m, k = m + 1 := ⟨k - 1, by omega⟩
    have hlt : n < l.length := by omega
    simp only [interchangeref05_Ints.l0]
    rw [if_pos (by omega), if_pos (by omega), if_pos (by omega), if_pos trivial, wrapN hlt hn]
    exact ih k (n + 1) (by omega) (by omega) (by omega)
theorem ints_refl (l : List Int) (hn : l.length ≤ 300) (k : Nat) (hk : 300 < k) : interchangeref05_Ints.f k l l = some true := by
  unfold interchangeref05_Ints.f
  rw [if_pos rfl]
  have h := ints_l0 l (by omega) l.length k 0 (by omega) (by omega) (by omega)
  rwa [Int.natCast_zero] at h

theorem BeatDues (l0_0 : List S24) (hb : l0_0.length * 16 ≤ 140737488351232) (hw : ∀ x ∈ l0_0, (Lit.int .i64 x.f0).wf = true ∧ (Lit.int .i64 x.f1).wf = true) (a0_1 : Int) (w1 : (Lit.int .i64 a0_1).wf = true) (a0_2 : Int) (w2 : (Lit.int .i64 a0_2).wf = true) (a0_3 : Int) (w3 : (Lit.int .i64 a0_3).wf = true) (a0_4 : Int) (w4 : (Lit.int .i64 a0_4).wf = true) : ∃ k, interchangelaw12_BeatDues.f k l0_0 a0_1 a0_2 a0_3 a0_4 = some true := by
  by_cases c : (l0_0.length : Int) > 200
  · refine ⟨0, ?_⟩
    unfold interchangelaw12_BeatDues.f
    rw [interchangelaw12_shown_true]
    simp only [Option.bind_some]
    rw [if_pos c]
  have hl : l0_0.length ≤ 200 := by omega
  obtain ⟨K1, h1⟩ := rtake_ok l0_0 a0_4 (by omega)
  obtain ⟨K2, h2⟩ := rset_ok l0_0 ⟨a0_1, a0_2⟩ hl
  obtain ⟨K3, h3⟩ := rdrop_ok l0_0 a0_3 (by omega)
  obtain ⟨K4, h4⟩ := ordered_ok l0_0 (by omega)
  obtain ⟨k, hk⟩ : ∃ k, K1 + K2 + K3 + K4 + 400 < k := ⟨_, Nat.lt_succ_self _⟩
  refine ⟨k, ?_⟩
  have hd : beat_Set.f l0_0 a0_1 a0_2 = some (sortedL (((sortedL l0_0).filter fun x => !(x.f1 == a0_2)) ++ [⟨a0_1, a0_2⟩])) := by
    have hlen : ((sortedL l0_0).filter fun x => !(x.f1 == a0_2)).length ≤ 200 := Nat.le_trans (List.length_filter_le _ _) (by rw [sortedL_length]; exact hl)
    unfold beat_Set.f
    rw [drop_ok l0_0 a0_2 (by omega)]
    simp only [Option.bind_some]
    rw [if_pos (by omega)]
  have e2 := h2 k (by omega)
  simp only at e2
  have hL : ∀ (p : S24 → Bool), ((sortedL l0_0).filter p).length ≤ 200 := fun p => Nat.le_trans (List.length_filter_le _ _) (by rw [sortedL_length]; exact hl)
  have hN : ∃ a b is, beat_Next.f l0_0 = some (a, b, is) ∧ interchangeref12_Next.f k l0_0 = some (a, b, is) := by
    unfold beat_Next.f interchangeref12_Next.f
    by_cases c0 : l0_0.length = 0
    · rw [if_pos c0, if_pos (by omega)]
      exact ⟨_, _, _, rfl, rfl⟩
    · obtain ⟨x, s, hS, hx⟩ := next_eq l0_0 (by omega) (by omega)
      rw [if_neg c0, if_neg (by omega), h4 k (by omega), hS, hx]
      refine ⟨_, _, _, rfl, ?_⟩
      simp only [Option.bind_some]
      rw [if_pos (by rw [List.length_cons]; omega)]
      simp [rd_T24]
  obtain ⟨a, b, is, n1, n2⟩ := hN
  unfold interchangelaw12_BeatDues.f
  rw [interchangelaw12_shown_true]
  simp only [Option.bind_some]
  rw [if_neg c, take_ok l0_0 a0_4 (by omega), h1 k (by omega)]
  simp only [Option.bind_some]
  rw [n1, n2]
  simp only [Option.bind_some]
  rw [hd, e2]
  simp only [Option.bind_some]
  rw [dsame_refl _ (by rw [sortedL_length]; have := hL (fun x => !(x.f1 == a0_2)); simp at this ⊢; omega) k (by omega)]
  simp only [Option.bind_some]
  rw [if_pos trivial, drop_ok l0_0 a0_3 (by omega), h3 k (by omega)]
  simp only [Option.bind_some]
  rw [dsame_refl _ (by have := hL (fun x => !(x.f1 == a0_3)); omega) k (by omega)]
  simp only [Option.bind_some]
  rw [if_pos trivial, dsame_refl _ (by have := hL (fun x => !decide (x.f0 ≤ a0_4)); omega) k (by omega)]
  simp only [Option.bind_some]
  rw [if_pos trivial, ints_refl _ (by rw [List.length_map]; have := hL (fun x => decide (x.f0 ≤ a0_4)); omega) k (by omega)]
  simp
end Go.Proofs.Yteomnodigfcfeaa.Pure
