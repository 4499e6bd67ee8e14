/- Plain laws of chapter 12: what is taken, dropped, set, due first. -/
import Derived.Test.YteomnodigfcfeaaH10
import Derived.Test.YteomnodigfcfeaaL21
import Derived.Test.YteomnodigfcfeaaQ15
namespace Go.Proofs.Yteomnodigfcfeaa.Q
open Go.RowKit Go.Proofs.Yteomnodigfcfeaa.Q Go.Proofs.YteomnodigfcfeaaW.PrintWords Go.Proofs.YteomnodigfcfeaaW.PrintLast Go.Proofs.YteomnodigfcfeaaW.PrintMore
set_option linter.unusedVariables false
set_option linter.unusedSimpArgs false

/-! ### the order -/
/-- a isn't behind b. -/
def leS (a b : S24) : Prop := ltD b a = false
theorem leS_iff (a b : S24) : leS a b ↔ a.f0 < b.f0 ∨ (a.f0 = b.f0 ∧ a.f1 ≤ b.f1) := by
  unfold leS ltD
  split
  · simp; omega
  · simp; omega
theorem ltS_iff (a b : S24) : ltD a b = true ↔ a.f0 < b.f0 ∨ (a.f0 = b.f0 ∧ a.f1 < b.f1) := by
  unfold ltD
  split
  · simp; omega
  · simp; omega
theorem leS_refl (a : S24) : leS a a := by rw [leS_iff]; omega
theorem leS_trans {a b c : S24} (h : leS a b) (k : leS b c) : leS a c := by rw [leS_iff] at *; omega
theorem leS_antisymm {a b : S24} (h : leS a b) (k : leS b a) : a = b := by
  rw [leS_iff] at h k
  cases a; cases b
  simp only [S24.mk.injEq] at *
  omega
theorem leS_of_lt {a b : S24} (h : ltD a b = true) : leS a b := by rw [ltS_iff] at h; rw [leS_iff]; omega

/-! ### the heap -/
def gtS (l : List S24) (i : Nat) : S24 := l.getD i z24
theorem gtS_swap (l : List S24) (i k : Nat) (hi : i < l.length) (hk : k < l.length) (j : Nat) : gtS (swapD l i k) j = if j = k then gtS l i else if j = i then gtS l k else gtS l j := by
  unfold gtS swapD
  simp only [List.getD_eq_getElem?_getD, List.getElem?_set, List.length_set]
  by_cases c1 : j = k
  · subst c1
    rw [if_pos rfl, if_pos rfl, if_pos hk]
    rfl
  · rw [if_neg (fun e => c1 e.symm), if_neg c1]
    by_cases c2 : j = i
    · subst c2
      rw [if_pos rfl, if_pos rfl, if_pos hi]
      rfl
    · rw [if_neg (fun e => c2 e.symm), if_neg c2]
theorem swapD_perm (l : List S24) (i k : Nat) (hi : i < l.length) (hk : k < l.length) : (swapD l i k).Perm l := by
  have e1 : l.getD i z24 = l[i] := by simp [hi]
  have e2 : l.getD k z24 = l[k] := by simp [hk]
  unfold swapD
  rw [e1, e2]
  exact List.set_set_perm hi hk
def childS (p c : Nat) : Prop := c = 2 * p + 1 ∨ c = 2 * p + 1 + 1
def HeapFrom (n s : Nat) (l : List S24) : Prop := ∀ p c, s ≤ p → childS p c → c < n → leS (gtS l p) (gtS l c)
def HInv (n s i : Nat) (l : List S24) : Prop := (∀ p c, s ≤ p → childS p c → c < n → p ≠ i → leS (gtS l p) (gtS l c)) ∧ (∀ p c, s ≤ p → childS p i → childS i c → c < n → leS (gtS l p) (gtS l c))
theorem leastOf_spec (n : Nat) (l : List S24) (i : Nat) (h : ¬ n ≤ 2 * i + 1) : childS i (leastOf n l i) ∧ leastOf n l i < n ∧ ∀ c, childS i c → c < n → leS (gtS l (leastOf n l i)) (gtS l c) := by
  unfold leastOf
  by_cases c : 2 * i + 1 + 1 < n ∧ ltD (l.getD (2 * i + 1 + 1) z24) (l.getD (2 * i + 1) z24) = true
  · rw [if_pos c]
    refine ⟨.inr rfl, c.1, fun d hd _ => ?_⟩
    rcases hd with rfl | rfl
    · exact leS_of_lt c.2
    · exact leS_refl _
  · rw [if_neg c]
    refine ⟨.inl rfl, by omega, fun d hd hdn => ?_⟩
    rcases hd with rfl | rfl
    · exact leS_refl _
    · show ltD _ _ = false
      cases hb : ltD (gtS l (2 * i + 1 + 1)) (gtS l (2 * i + 1))
      · rfl
      · exact absurd ⟨hdn, hb⟩ c
theorem downL_spec (n s : Nat) : ∀ (k : Nat) (l : List S24) (i : Nat), n ≤ l.length → n < k + i → s ≤ i → HInv n s i l →
    HeapFrom n s (downL n k l i) ∧ (downL n k l i).Perm l ∧ (∀ j, n ≤ j → gtS (downL n k l i) j = gtS l j)
  | 0, l, i, hl, hk, hs, hI => by
    refine ⟨fun p c hp hc hcn => ?_, .refl _, fun _ _ => rfl⟩
    refine hI.1 p c hp hc hcn ?_
    rintro rfl
    rcases hc with rfl | rfl <;> omega
  | k + 1, l, i, hl, hk, hs, hI => by
    simp only [downL]
    by_cases c1 : n ≤ 2 * i + 1
    · rw [if_pos c1]
      refine ⟨fun p c hp hc hcn => ?_, .refl _, fun _ _ => rfl⟩
      refine hI.1 p c hp hc hcn ?_
      rintro rfl
      rcases hc with rfl | rfl <;> omega
    rw [if_neg c1]
    obtain ⟨hj1, hj2, hj3⟩ := leastOf_spec n l i c1
    obtain ⟨j, hj⟩ : ∃ j, leastOf n l i = j := ⟨_, rfl⟩
    rw [hj] at hj1 hj2 hj3 ⊢
    have hij : i < j := by rcases hj1 with rfl | rfl <;> omega
    by_cases c2 : ltD (l.getD j z24) (l.getD i z24) = true
    · rw [if_pos c2]
      have hil : i < l.length := by omega
      have hjl : j < l.length := by omega
      have hsw := gtS_swap l i j hil hjl
      have hlt : leS (gtS l j) (gtS l i) := leS_of_lt c2
      have hI2 : HInv n s j (swapD l i j) := by
        refine ⟨fun p c hp hc hcn hpj => ?_, fun p c hp hpj hc hcn => ?_⟩
        · by_cases e1 : p = i
          · subst e1
            have hpc : c ≠ p := by rcases hc with rfl | rfl <;> omega
            rw [hsw p, if_neg (by omega), if_pos rfl, hsw c]
            by_cases e2 : c = j
            · rw [if_pos e2]; exact hlt
            · rw [if_neg e2, if_neg hpc]; exact hj3 c hc hcn
          · rw [hsw p, if_neg hpj, if_neg e1, hsw c]
            by_cases e2 : c = j
            · exfalso
              subst e2
              unfold childS at hc hj1
              omega
            · rw [if_neg e2]
              by_cases e3 : c = i
              · subst e3
                rw [if_pos rfl]
                exact hI.2 p j hp hc hj1 hj2
              · rw [if_neg e3]
                exact hI.1 p c hp hc hcn e1
        · have e1 : p = i := by unfold childS at hpj hj1; omega
          subst e1
          have hcj : c ≠ j := by rcases hc with rfl | rfl <;> omega
          have hcp : c ≠ p := by rcases hc with rfl | rfl <;> omega
          rw [hsw p, if_neg (by omega), if_pos rfl, hsw c, if_neg hcj, if_neg hcp]
          exact hI.1 j c (by omega) hc hcn (by omega)
      obtain ⟨r1, r2, r3⟩ := downL_spec n s k (swapD l i j) j (by rw [swapD_length]; exact hl) (by omega) (by omega) hI2
      refine ⟨r1, r2.trans (swapD_perm l i j hil hjl), fun m hm => ?_⟩
      rw [r3 m hm, hsw m, if_neg (by omega), if_neg (by omega)]
    · rw [if_neg c2]
      have hle : leS (gtS l i) (gtS l j) := by
        show ltD _ _ = false
        cases hb : ltD (gtS l j) (gtS l i)
        · rfl
        · exact absurd hb c2
      refine ⟨fun p c hp hc hcn => ?_, .refl _, fun _ _ => rfl⟩
      by_cases e : p = i
      · subst e
        exact leS_trans hle (hj3 c hc hcn)
      · exact hI.1 p c hp hc hcn e
theorem initL_spec (n : Nat) : ∀ (m : Nat) (l : List S24), n ≤ l.length → HeapFrom n m l → HeapFrom n 0 (initL n m l) ∧ (initL n m l).Perm l
  | 0, l, _, h => ⟨h, .refl _⟩
  | m + 1, l, hl, h => by
    simp only [initL]
    obtain ⟨r1, r2, _⟩ := downL_spec n m (n + 1) l m hl (by omega) (Nat.le_refl _) ⟨fun p c hp hc hcn hpm => h p c (by omega) hc hcn, fun p c hp hc _ _ => by rcases hc with e | e <;> omega⟩
    obtain ⟨s1, s2⟩ := initL_spec n m (downL n (n + 1) l m) (by rw [r2.length_eq]; exact hl) r1
    exact ⟨s1, s2.trans r2⟩
theorem root_min (n : Nat) (l : List S24) (h : HeapFrom n 0 l) : ∀ i, i < n → leS (gtS l 0) (gtS l i) := by
  intro i
  induction i using Nat.strongRecOn with
  | ind i ih =>
    intro hi
    by_cases c : i = 0
    · subst c; exact leS_refl _
    · have hp : childS ((i - 1) / 2) i := by unfold childS; omega
      exact leS_trans (ih ((i - 1) / 2) (by omega) (by omega)) (h _ i (Nat.zero_le _) hp hi)
theorem popL_spec (n : Nat) (l : List S24) (hl : l.length = n + 1) (h : HeapFrom (n + 1) 0 l) : HeapFrom n 0 (popL n l) ∧ (popL n l).Perm l ∧ gtS (popL n l) n = gtS l 0 := by
  have hsw := gtS_swap l 0 n (by omega) (by omega)
  have hI : HInv n 0 0 (swapD l 0 n) := by
    refine ⟨fun p c _ hc hcn hp0 => ?_, fun p c _ hp _ _ => by rcases hp with e | e <;> omega⟩
    have hpc : p < c := by rcases hc with rfl | rfl <;> omega
    rw [hsw p, if_neg (by omega), if_neg hp0, hsw c, if_neg (by omega), if_neg (by omega)]
    exact h p c (Nat.zero_le _) hc (by omega)
  obtain ⟨r1, r2, r3⟩ := downL_spec n 0 (n + 1) (swapD l 0 n) 0 (by rw [swapD_length]; omega) (by omega) (Nat.le_refl _) hI
  refine ⟨r1, r2.trans (swapD_perm l 0 n (by omega) (by omega)), ?_⟩
  show gtS (downL n (n + 1) (swapD l 0 n) 0) n = _
  rw [r3 n (Nat.le_refl _), hsw n, if_pos rfl]
theorem drainL_spec : ∀ (n : Nat) (l : List S24), l.length = n → HeapFrom n 0 l → (drainL n l).Perm l ∧ (drainL n l).Pairwise leS
  | 0, l, hl, _ => by
    obtain rfl := List.eq_nil_of_length_eq_zero hl
    exact ⟨.refl _, List.Pairwise.nil⟩
  | n + 1, l, hl, h => by
    obtain ⟨r1, r2, r3⟩ := popL_spec n l hl h
    have hlen : (popL n l).length = n + 1 := by rw [r2.length_eq]; exact hl
    have hsplit : popL n l = (popL n l).take n ++ [gtS (popL n l) n] := by
      have h1 : (popL n l).take (n + 1) = popL n l := List.take_of_length_le (by omega)
      have h2 : (popL n l).take (n + 1) = (popL n l).take n ++ [(popL n l)[n]] := List.take_succ_eq_append_getElem (by omega)
      have h3 : gtS (popL n l) n = (popL n l)[n] := by unfold gtS; simp [show n < (popL n l).length by omega]
      rw [h3, ← h2, h1]
    have hH : HeapFrom n 0 ((popL n l).take n) := by
      intro p c hp hc hcn
      have hpc : p < c := by rcases hc with rfl | rfl <;> omega
      have e : ∀ j, j < n → gtS ((popL n l).take n) j = gtS (popL n l) j := fun j hj => by unfold gtS; simp [List.getElem?_take, hj]
      rw [e p (by omega), e c hcn]
      exact r1 p c hp hc hcn
    obtain ⟨s1, s2⟩ := drainL_spec n ((popL n l).take n) (by rw [List.length_take]; omega) hH
    have hperm : (gtS (popL n l) n :: drainL n ((popL n l).take n)).Perm l := by
      refine (List.Perm.cons _ s1).trans ((List.perm_append_singleton _ _).symm.trans ?_)
      rw [← hsplit]
      exact r2
    refine ⟨hperm, ?_⟩
    show (gtS (popL n l) n :: drainL n ((popL n l).take n)).Pairwise leS
    rw [List.pairwise_cons]
    refine ⟨fun x hx => ?_, s2⟩
    have hxl : x ∈ l := hperm.mem_iff.1 (List.mem_cons_of_mem _ hx)
    obtain ⟨i, hi, rfl⟩ := List.getElem_of_mem hxl
    have := root_min (n + 1) l h i (by omega)
    rw [r3]
    have e : gtS l i = l[i] := by unfold gtS; simp [hi]
    rwa [e] at this
/-- What is told is in order, and is what was there. -/
theorem sortedL_spec (l : List S24) : (sortedL l).Perm l ∧ (sortedL l).Pairwise leS := by
  unfold sortedL
  have h0 : HeapFrom l.length (l.length / 2) l := by
    intro p c hp hc hcn
    rcases hc with rfl | rfl <;> omega
  obtain ⟨h1, h2⟩ := initL_spec l.length (l.length / 2) l (Nat.le_refl _) h0
  obtain ⟨h3, h4⟩ := drainL_spec l.length _ h2.length_eq h1
  exact ⟨h3.trans h2, h4⟩
/-- Two rows in order, of the same, are the same. -/
theorem sorted_unique : ∀ (a b : List S24), a.Perm b → a.Pairwise leS → b.Pairwise leS → a = b
  | [], b, h, _, _ => (List.nil_perm.1 h).symm
  | x :: a, [], h, _, _ => absurd h.length_eq (by simp)
  | x :: a, y :: b, h, ha, hb => by
    rw [List.pairwise_cons] at ha hb
    have hxy : x = y := by
      have h1 : x ∈ y :: b := h.mem_iff.1 List.mem_cons_self
      have h2 : y ∈ x :: a := h.mem_iff.2 List.mem_cons_self
      rcases List.mem_cons.1 h1 with e | e
      · exact e
      rcases List.mem_cons.1 h2 with e' | e'
      · exact e'.symm
      exact leS_antisymm (ha.1 y e') (hb.1 x e)
    subst hxy
    rw [sorted_unique a b ((List.perm_cons x).1 h) ha.2 hb.2]
theorem rdT_nat (l : List S24) (n : Nat) (h : n < l.length) : rd_T24 l (n : Int) = l[n] := by simp [rd_T24, h]
theorem rdI_nat (l : List Int) (n : Nat) (h : n < l.length) : rd l (n : Int) = l[n] := by simp [rd, h]
theorem wrapN {n m : Nat} (h : n < m) (hm : m ≤ 9223372036854775807) : wrap64 ((n : Int) + 1) = ((n + 1 : Nat) : Int) := by unfold wrap64; omega
theorem wrapP {n : Nat} (h : 0 < n) (hm : n ≤ 9223372036854775807) : wrap64 ((n : Int) - 1) = ((n - 1 : Nat) : Int) := by unfold wrap64; omega
theorem wrapS {n m : Nat} (h : m ≤ n) (hm : n ≤ 9223372036854775807) : wrap64 ((n : Int) - (m : Int)) = ((n - m : Nat) : Int) := by unfold wrap64; omega
theorem sortedL_length (l : List S24) : (sortedL l).length = l.length := (sortedL_spec l).1.length_eq
theorem take_ok (l : List S24) (a : Int) (h : l.length ≤ 8796093022000) : beat_Take.f l a = some ((sortedL l).filter (fun x => !decide (x.f0 ≤ a)), ((sortedL l).filter fun x => decide (x.f0 ≤ a)).map (·.f1)) := by
  unfold beat_Take.f
  rw [if_pos ⟨h, by rw [sortedL_length]; exact h⟩]
theorem drop_ok (l : List S24) (id : Int) (h : l.length ≤ 8796093022000) : beat_Drop.f l id = some ((sortedL l).filter fun x => !(x.f1 == id)) := by
  unfold beat_Drop.f
  rw [if_pos h]
theorem filt_len (p : S24 → Bool) (l : List S24) : (l.filter p).length + (l.filter fun x => !p x).length = l.length := by
  induction l with
  | nil => rfl
  | cons a l ih =>
    rw [List.filter_cons, List.filter_cons]
    cases h : p a <;> simp <;> omega
/-- A row in order is what is due, ahead of what isn't. -/
theorem split_due (a : Int) : ∀ (s : List S24), s.Pairwise leS → s = (s.filter fun x => decide (x.f0 ≤ a)) ++ s.filter fun x => !decide (x.f0 ≤ a)
  | [], _ => rfl
  | x :: s, h => by
    rw [List.pairwise_cons] at h
    by_cases c : x.f0 ≤ a
    · rw [List.filter_cons, if_pos (by simpa using c), List.filter_cons, if_neg (by simpa using c), List.cons_append, ← split_due a s h.2]
    · have h1 : (s.filter fun x => decide (x.f0 ≤ a)) = [] := by
        rw [List.filter_eq_nil_iff]
        intro y hy
        have := (leS_iff x y).1 (h.1 y hy)
        simp
        omega
      have h2 : (s.filter fun x => !decide (x.f0 ≤ a)) = s := by
        rw [List.filter_eq_self]
        intro y hy
        have := (leS_iff x y).1 (h.1 y hy)
        simp
        omega
      rw [List.filter_cons, if_neg (by simpa using c), List.filter_cons, if_pos (by simpa using c), h1, h2]
      rfl
theorem sortedL_of (s : List S24) (h : s.Pairwise leS) : sortedL s = s := sorted_unique _ _ (sortedL_spec s).1 (sortedL_spec s).2 h
theorem minI_spec (l : List S24) : ∀ n, n ≤ l.length → ∀ i, i < n → leS (l.getD (minI l n) z24) (l.getD i z24)
  | 0, _, i, h => by omega
  | n + 1, hn, i, h => by
    simp only [minI]
    have ih := minI_spec l n (by omega)
    cases hb : ltD (l.getD n z24) (l.getD (minI l n) z24)
    · rw [if_neg (by simp)]
      by_cases e : i = n
      · subst e; exact hb
      · exact ih i (by omega)
    · rw [if_pos rfl]
      by_cases e : i = n
      · subst e; exact leS_refl _
      · exact leS_trans (leS_of_lt hb) (ih i (by omega))
end Go.Proofs.Yteomnodigfcfeaa.Q
