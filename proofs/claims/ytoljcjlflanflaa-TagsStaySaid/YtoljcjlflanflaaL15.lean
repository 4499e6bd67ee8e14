/- Plain laws of chapter 15: what is right, what is found, what is settled. -/
import Derived.Test.YtoljcjlflanflaaQ10
import Derived.Test.YtoljcjlflanflaaQ13
import Derived.Test.YtoljcjlflanflaaQ16
import Derived.Test.YtoljcjlflanflaaQ17
import Derived.Test.YtoljcjlflanflaaH9
import Derived.Test.YtoljcjlflanflaaH11
import Derived.Test.YtoljcjlflanflaaH12
import Derived.Test.YtoljcjlflanflaaH15
namespace Go.Proofs.Ytoljcjlflanflaa.Q
open Go.RowKit Go.Proofs.YtoljcjlflanflaaW.PrintWords Go.Proofs.YtoljcjlflanflaaW.PrintLast Go.Proofs.YtoljcjlflanflaaW.PrintMore
set_option linter.unusedVariables false
set_option linter.unusedSimpArgs false

theorem u64_wf {a : Int} (h : (Lit.int .u64 a).wf = true) : 0 ≤ a ∧ a ≤ 18446744073709551615 := by
  simp [Lit.wf, IntKind.min, IntKind.max, IntKind.bits, IntKind.signed] at h
  omega
theorem i64_wf {a : Int} (h : (Lit.int .i64 a).wf = true) : -9223372036854775808 ≤ a ∧ a ≤ 9223372036854775807 := by
  simp [Lit.wf, IntKind.min, IntKind.max, IntKind.bits, IntKind.signed] at h
  omega
theorem rdT_nat (l : List S47) (n : Nat) (h : n < l.length) : rd_T47 l (n : Int) = l[n] := by simp [rd_T47, h]
theorem rdI_nat (l : List Int) (n : Nat) (h : n < l.length) : rd l (n : Int) = l[n] := by simp [rd, h]
theorem wrapN {n m : Nat} (h : n < m) (hm : m ≤ 9223372036854775807) : wrap64 ((n : Int) + 1) = ((n + 1 : Nat) : Int) := by unfold wrap64; omega

/-- What is right. -/
def GL (nx last : Int) (l : List S47) : Prop := (∀ x ∈ l, 1 ≤ x.f0 ∧ x.f0 < nx ∧ 1 ≤ x.f1 ∧ x.f1 ≤ last) ∧ l.Pairwise (fun x y => x.f0 < y.f0 ∧ x.f1 < y.f1)

theorem right_l0 (nx last : Int) (l : List S47) (hn : l.length ≤ 9223372036854775807) (d : Nat) : ∀ (k n : Nat), n ≤ l.length → l.length - n = d → 2 * d < k → GL nx last (l.take n) →
    ∃ b, interchangeref15_Right.l0 k (n : Int) nx last l = some b ∧ (b = true ↔ GL nx last l) := by
  induction d with
  | zero =>
    intro k n h1 hd hk hg
    obtain ⟨k, rfl⟩ : ∃ m, k = m + 1 := ⟨k - 1, by omega⟩
    obtain rfl : n = l.length := by omega
    simp only [interchangeref15_Right.l0]
    rw [if_neg (by omega)]
    rw [List.take_length] at hg
    exact ⟨true, rfl, fun _ => hg, fun _ => rfl⟩
  | succ d ih =>
    intro k n h1 hd hk hg
    obtain ⟨k, rfl⟩ : ∃ m, k = m + 1 + 1 := ⟨k - 2, by omega⟩
    have hlt : n < l.length := by omega
    have htk : l.take (n + 1) = l.take n ++ [l[n]] := List.take_succ_eq_append_getElem hlt
    have hmem : l[n] ∈ l := List.getElem_mem hlt
    have hj : ∀ bad : Bool, (bad = true → ¬ (1 ≤ l[n].f0 ∧ l[n].f0 < nx ∧ 1 ≤ l[n].f1 ∧ l[n].f1 ≤ last)) → (bad = false → (1 ≤ l[n].f0 ∧ l[n].f0 < nx ∧ 1 ≤ l[n].f1 ∧ l[n].f1 ≤ last)) →
        ∃ b, interchangeref15_Right.j1 (k + 1) (n : Int) bad nx last l l[n].f0 l[n].f1 = some b ∧ (b = true ↔ GL nx last l) := by
      intro bad hb1 hb2
      simp only [interchangeref15_Right.j1]
      cases bad
      · rw [if_neg (by simp)]
        have hx := hb2 rfl
        by_cases c3 : (n : Int) > 0
        · obtain ⟨m, rfl⟩ : ∃ m, n = m + 1 := ⟨n - 1, by omega⟩
          have hw : wrap64 (((m + 1 : Nat) : Int) - 1) = (m : Int) := by unfold wrap64; omega
          rw [if_pos c3, hw, if_pos (by omega), if_pos (by omega), rdT_nat l m (by omega), wrapN hlt hn]
          by_cases c4 : l[m].f0 ≥ l[m + 1].f0
          · rw [if_pos c4]
            exact ⟨false, rfl, fun h => (by cases h), fun h => by have := List.pairwise_iff_getElem.1 h.2 m (m + 1) (by omega) hlt (by omega); omega⟩
          rw [if_neg c4]
          by_cases c5 : l[m].f1 ≥ l[m + 1].f1
          · rw [if_pos c5]
            exact ⟨false, rfl, fun h => (by cases h), fun h => by have := List.pairwise_iff_getElem.1 h.2 m (m + 1) (by omega) hlt (by omega); omega⟩
          rw [if_neg c5]
          refine ih k (m + 1 + 1) (by omega) (by omega) (by omega) ⟨fun x hx' => ?_, ?_⟩
          · rw [htk, List.mem_append] at hx'
            rcases hx' with h | h
            · exact hg.1 x h
            · rw [List.mem_singleton] at h; subst h; exact hx
          · rw [htk, List.pairwise_append]
            refine ⟨hg.2, List.pairwise_singleton _ _, fun a ha b hb => ?_⟩
            rw [List.mem_singleton] at hb
            subst hb
            have htm : l.take (m + 1) = l.take m ++ [l[m]] := List.take_succ_eq_append_getElem (by omega)
            have hp := hg.2
            rw [htm, List.pairwise_append] at hp
            rw [htm, List.mem_append] at ha
            rcases ha with h | h
            · have := hp.2.2 a h l[m] (List.mem_singleton.2 rfl); omega
            · rw [List.mem_singleton] at h; subst h; omega
        · obtain rfl : n = 0 := by omega
          rw [if_neg c3, wrapN hlt hn]
          refine ih k 1 (by omega) (by omega) (by omega) ⟨fun x hx' => ?_, ?_⟩
          · rw [htk] at hx'
            simp at hx'
            subst hx'
            exact hx
          · rw [htk]
            simp
      · rw [if_pos rfl]
        exact ⟨false, rfl, fun h => (by cases h), fun h => absurd (h.1 _ hmem) (hb1 rfl)⟩
    simp only [interchangeref15_Right.l0]
    rw [if_pos (by omega), if_pos (by omega), rdT_nat l n hlt]
    by_cases c1 : l[n].f0 < 1
    · rw [if_pos c1]; exact hj true (fun _ h => by omega) (fun h => by cases h)
    rw [if_neg c1]
    by_cases c2 : l[n].f0 ≥ nx
    · rw [if_pos c2]; exact hj true (fun _ h => by omega) (fun h => by cases h)
    rw [if_neg c2]
    by_cases c3 : l[n].f1 < 1
    · rw [if_pos c3]; exact hj true (fun _ h => by omega) (fun h => by cases h)
    rw [if_neg c3]
    exact hj _ (fun h => by have := of_decide_eq_true h; omega) (fun h => by have := of_decide_eq_false h; omega)

theorem right_ok (nx last : Int) (l : List S47) (hn : l.length ≤ 9223372036854775807) (k : Nat) (hk : 2 * l.length < k) :
    ∃ b, interchangeref15_Right.f k nx last l = some b ∧ (b = true ↔ 1 ≤ nx ∧ GL nx last l) := by
  unfold interchangeref15_Right.f
  by_cases c : nx < 1
  · rw [if_pos c]
    exact ⟨false, rfl, fun h => (by cases h), fun h => by omega⟩
  · rw [if_neg c]
    obtain ⟨b, hb, hg⟩ := right_l0 nx last l hn l.length k 0 (by omega) (by omega) (by omega) ⟨by simp, by simp⟩
    exact ⟨b, hb, hg.trans ⟨fun h => ⟨by omega, h⟩, fun h => h.2⟩⟩
theorem right_true (nx last : Int) (l : List S47) (hn : l.length ≤ 9223372036854775807) (k : Nat) (hk : 2 * l.length < k) (h1 : 1 ≤ nx) (hg : GL nx last l) : interchangeref15_Right.f k nx last l = some true := by
  obtain ⟨b, hb, hh⟩ := right_ok nx last l hn k hk
  rw [hb, hh.2 ⟨h1, hg⟩]

theorem cons_dec {x y : Int} {s t : List Int} (h : x = y) : decide (x :: s = y :: t) = decide (s = t) := by subst h; simp
theorem cons_ndec {x y : Int} {s t : List Int} (h : ¬ x = y) : decide (x :: s = y :: t) = false := by simp [h]
theorem nums_l0 (a b : List Int) (hn : a.length ≤ 9223372036854775807) (hl : a.length = b.length) (d : Nat) : ∀ (k n : Nat), n ≤ a.length → a.length - n = d → d < k →
    interchangeref15_Nums.l0 k a b (n : Int) = some (decide (a.drop n = b.drop n)) := by
  induction d with
  | zero =>
    intro k n h1 hd hk
    obtain ⟨k, rfl⟩ : ∃ m, k = m + 1 := ⟨k - 1, by omega⟩
    obtain rfl : n = a.length := by omega
    simp only [interchangeref15_Nums.l0]
    rw [if_neg (by omega), List.drop_length, hl, List.drop_length]
    rfl
  | succ d ih =>
    intro k n h1 hd hk
    obtain ⟨k, rfl⟩ : ∃ m, k = m + 1 := ⟨k - 1, by omega⟩
    have hlt : n < a.length := by omega
    simp only [interchangeref15_Nums.l0]
    rw [if_pos (by omega), if_pos (by omega), if_pos (by omega), rdI_nat a n hlt, rdI_nat b n (by omega), wrapN hlt hn, ih k (n + 1) (by omega) (by omega) (by omega)]
    have hda : a.drop n = a[n] :: a.drop (n + 1) := List.drop_eq_getElem_cons hlt
    have hdb : b.drop n = b[n] :: b.drop (n + 1) := List.drop_eq_getElem_cons (by omega)
    by_cases e : a[n] = b[n]'(by omega)
    · rw [if_pos e, hda, hdb, cons_dec e]
    · rw [if_neg e, hda, hdb, cons_ndec e]
theorem nums_ok (a b : List Int) (hn : a.length ≤ 9223372036854775807) (k : Nat) (hk : a.length < k) : interchangeref15_Nums.f k a b = some (decide (a = b)) := by
  unfold interchangeref15_Nums.f
  by_cases hl : a.length = b.length
  · rw [if_pos (by omega)]
    have h := nums_l0 a b hn hl a.length k 0 (by omega) (by omega) hk
    rw [Int.natCast_zero] at h
    rw [h]
    simp
  · rw [if_neg (by omega)]
    have : a ≠ b := fun e => hl (by rw [e])
    simp [this]
theorem same_l0 (a b : Int) (l : List S47) (hn : l.length ≤ 9223372036854775807) (d : Nat) : ∀ (k n : Nat), n ≤ l.length → l.length - n = d → d < k →
    interchangeref15_Same.l0 k (n : Int) a b l a b l = some true := by
  induction d with
  | zero =>
    intro k n h1 hd hk
    obtain ⟨k, rfl⟩ : ∃ m, k = m + 1 := ⟨k - 1, by omega⟩
    simp only [interchangeref15_Same.l0]
    rw [if_neg (by omega)]
  | succ d ih =>
    intro k n h1 hd hk
    obtain ⟨k, rfl⟩ : ∃ m, k = m + 1 := ⟨k - 1, by omega⟩
    have hlt : n < l.length := by omega
    simp only [interchangeref15_Same.l0]
    rw [if_pos (by omega), if_pos (by omega), if_pos (by omega), if_neg (by simp), wrapN hlt hn]
    exact ih k (n + 1) (by omega) (by omega) (by omega)
theorem same_refl (a b : Int) (l : List S47) (hn : l.length ≤ 9223372036854775807) (k : Nat) (hk : l.length + 1 < k) : interchangeref15_Same.f k a b l a b l = some true := by
  unfold interchangeref15_Same.f
  obtain ⟨k, rfl⟩ : ∃ m, k = m + 1 := ⟨k - 1, by omega⟩
  rw [if_pos rfl, if_pos rfl]
  simp only [interchangeref15_Same.j0]
  rw [if_neg (by simp)]
  have h := same_l0 a b l hn l.length k 0 (by omega) (by omega) (by omega)
  rwa [Int.natCast_zero] at h
theorem equal_l0 (l : List S47) (hn : l.length ≤ 9223372036854775807) (d : Nat) : ∀ (k n : Nat), n ≤ l.length → l.length - n = d → d < k →
    api_Tag_21.l0 k l l (l.length : Int) (n : Int) = some true := by
  induction d with
  | zero =>
    intro k n h1 hd hk
    obtain ⟨k, rfl⟩ : ∃ m, k = m + 1 := ⟨k - 1, by omega⟩
    simp only [api_Tag_21.l0]
    rw [if_neg (by omega)]
  | succ d ih =>
    intro k n h1 hd hk
    obtain ⟨k, rfl⟩ : ∃ m, k = m + 1 := ⟨k - 1, by omega⟩
    have hlt : n < l.length := by omega
    simp only [api_Tag_21.l0]
    rw [if_pos (by omega), if_pos (by omega), if_pos (by omega), if_pos (by omega), if_neg (by simp), wrapN hlt hn]
    exact ih k (n + 1) (by omega) (by omega) (by omega)
theorem tsame_refl (a b : Int) (l : List S47) (hn : l.length ≤ 9223372036854775807) (k : Nat) (hk : l.length < k) : tags_Same.f k a b l a b l = some true := by
  unfold tags_Same.f
  rw [if_pos rfl, if_pos rfl]
  have h := equal_l0 l hn l.length k 0 (by omega) (by omega) (by omega)
  rw [Int.natCast_zero] at h
  unfold api_Tag_21.f
  rw [if_pos rfl, h]
  rfl

/-! ### the search -/
theorem bsF_spec (l : List S47) (n : Int) (hs : l.Pairwise (fun x y => x.f0 < y.f0 ∧ x.f1 < y.f1)) : ∀ (k i j : Nat), i ≤ j → j ≤ l.length → j - i < k →
    (∀ q (h : q < l.length), q < i → l[q].f0 < n) → (∀ q (h : q < l.length), j ≤ q → n ≤ l[q].f0) →
    bsF l n k i j ≤ l.length ∧ (∀ q (h : q < l.length), q < bsF l n k i j → l[q].f0 < n) ∧ (∀ q (h : q < l.length), bsF l n k i j ≤ q → n ≤ l[q].f0) := by
  intro k
  induction k with
  | zero => intro i j _ _ h; omega
  | succ k ih =>
    intro i j hij hj hk h1 h2
    simp only [bsF]
    by_cases hlt : i < j
    · rw [if_pos hlt]
      obtain ⟨h, hh⟩ : ∃ h, (i + j) / 2 = h := ⟨_, rfl⟩
      rw [hh]
      have hlt' : h < l.length := by omega
      rw [List.getElem?_eq_getElem hlt']
      simp only [Option.map_some, Option.getD_some]
      by_cases c : l[h].f0 < n
      · rw [if_pos c]
        refine ih (h + 1) j (by omega) hj (by omega) (fun q hq hqi => ?_) h2
        by_cases e : q = h
        · subst e; exact c
        · have := List.pairwise_iff_getElem.1 hs q h hq hlt' (by omega); omega
      · rw [if_neg c]
        refine ih i h (by omega) (by omega) (by omega) h1 (fun q hq hqi => ?_)
        by_cases e : q = h
        · subst e; omega
        · have := List.pairwise_iff_getElem.1 hs h q hlt' hq (by omega); omega
    · rw [if_neg hlt]
      obtain rfl : i = j := by omega
      exact ⟨hj, h1, h2⟩
theorem bsI_spec (l : List S47) (n : Int) (hs : l.Pairwise (fun x y => x.f0 < y.f0 ∧ x.f1 < y.f1)) :
    bsI l n ≤ l.length ∧ (∀ q (h : q < l.length), q < bsI l n → l[q].f0 < n) ∧ (∀ q (h : q < l.length), bsI l n ≤ q → n ≤ l[q].f0) :=
  bsF_spec l n hs (l.length + 1) 0 l.length (by omega) (by omega) (by omega) (fun q _ h => by omega) (fun q h h' => by omega)
/-- Where it is: the row is what lies ahead, it, and what lies behind. -/
theorem place_split (l : List S47) (n : Int) (hs : l.Pairwise (fun x y => x.f0 < y.f0 ∧ x.f1 < y.f1)) :
    (placeIs l n = false ∧ ∀ x ∈ l, x.f0 ≠ n) ∨ (placeIs l n = true ∧ ∃ A x B, l = A ++ x :: B ∧ bsI l n = A.length ∧ x.f0 = n ∧ (∀ y ∈ A, y.f0 < n ∧ y.f1 < x.f1) ∧ (∀ y ∈ B, n < y.f0 ∧ x.f1 < y.f1)) := by
  obtain ⟨h1, h2, h3⟩ := bsI_spec l n hs
  obtain ⟨p, hp⟩ : ∃ p, bsI l n = p := ⟨_, rfl⟩
  unfold placeIs
  rw [hp] at h1 h2 h3 ⊢
  have hno : (∀ h : p < l.length, l[p].f0 ≠ n) → ∀ x ∈ l, x.f0 ≠ n := by
    intro hx x hm e
    obtain ⟨q, hq, rfl⟩ := List.getElem_of_mem hm
    by_cases c : q < p
    · have := h2 q hq c; omega
    · by_cases c' : q = p
      · subst c'; exact hx hq e
      · have hpl : p < l.length := by omega
        have a1 := h3 p hpl (by omega)
        have a2 := List.pairwise_iff_getElem.1 hs p q hpl hq (by omega)
        omega
  by_cases c : p < l.length
  · rw [List.getElem?_eq_getElem c]
    simp only [Option.map_some, Option.getD_some]
    by_cases e : l[p].f0 = n
    · refine .inr ⟨by simp [c, e], l.take p, l[p], l.drop (p + 1), ?_, by rw [List.length_take]; omega, e, ?_, ?_⟩
      · rw [← List.drop_eq_getElem_cons c, List.take_append_drop]
      · intro y hy
        obtain ⟨q, hq, rfl⟩ := List.getElem_of_mem hy
        rw [List.length_take] at hq
        rw [List.getElem_take]
        have := List.pairwise_iff_getElem.1 hs q p (by omega) c (by omega)
        omega
      · intro y hy
        obtain ⟨q, hq, rfl⟩ := List.getElem_of_mem hy
        rw [List.length_drop] at hq
        rw [List.getElem_drop]
        have := List.pairwise_iff_getElem.1 hs p (p + 1 + q) c (by omega) (by omega)
        omega
    · exact .inl ⟨by simp [e], hno (fun _ => e)⟩
  · exact .inl ⟨by simp [c], hno (fun h => absurd h c)⟩

/-- Find, of what is right. -/
theorem find_cases (a b : Int) (l : List S47) (n : Int) (hs : l.Pairwise (fun x y => x.f0 < y.f0 ∧ x.f1 < y.f1)) :
    (tags_Find.f a b l n = some (0, false) ∧ ∀ x ∈ l, x.f0 ≠ n) ∨ (∃ x ∈ l, x.f0 = n ∧ tags_Find.f a b l n = some (x.f1, true)) := by
  unfold tags_Find.f
  rcases place_split l n hs with ⟨h, h'⟩ | ⟨h, A, x, B, rfl, hi, hx, _, _⟩
  · rw [if_neg (by rw [h]; simp)]
    exact .inl ⟨rfl, h'⟩
  · rw [if_pos h, hi, rdT_nat _ A.length (by simp)]
    refine .inr ⟨x, by simp, hx, ?_⟩
    simp

theorem filt_none {p : S47 → Bool} {l : List S47} (h : ∀ x ∈ l, p x = false) : l.filter p = [] := by
  rw [List.filter_eq_nil_iff]
  intro x hx
  rw [h x hx]
  simp
theorem filt_all {p : S47 → Bool} {l : List S47} (h : ∀ x ∈ l, p x = true) : l.filter p = l := by
  rw [List.filter_eq_self]
  exact h

/-- Settle, of what is right: refused; or these. -/
theorem settle_cases (a b : Int) (l : List S47) (n : Int) (many : Bool) (hs : l.Pairwise (fun x y => x.f0 < y.f0 ∧ x.f1 < y.f1)) (hl : l.length ≤ 8796093022000) :
    (tags_Settle.f a b l n many = some (a, b, l, [], 13) ∧ ((many = true ∧ n = 0 ∧ l = []) ∨ (¬ (many = true ∧ n = 0) ∧ ∀ x ∈ l, x.f0 ≠ n))) ∨
    (∃ p : S47 → Bool, tags_Settle.f a b l n many = some (a, b, l.filter (fun x => !p x), (l.filter p).map (·.f1), 0) ∧
      ((many = true ∧ n = 0 ∧ l ≠ [] ∧ ∀ x, p x = true) ∨ (¬ (many = true ∧ n = 0) ∧ (∃ x ∈ l, x.f0 = n) ∧ ∀ x, p x = (x.f0 == n || many && decide (x.f0 < n))))) := by
  unfold tags_Settle.f
  by_cases ha : many = true ∧ n = 0
  · obtain ⟨rfl, rfl⟩ := ha
    cases l with
    | nil =>
      rw [if_pos (by simp [isOf, allOf])]
      exact .inl ⟨rfl, .inl ⟨rfl, rfl, rfl⟩⟩
    | cons y l =>
      rw [if_neg (by simp [isOf, allOf]), if_pos hl]
      refine .inr ⟨fun _ => true, ?_, .inl ⟨rfl, rfl, by simp, fun _ => rfl⟩⟩
      have e1 : (y :: l).filter (fun _ => true) = y :: l := filt_all fun _ _ => rfl
      have e2 : (y :: l).filter (fun x => !(fun _ : S47 => true) x) = [] := filt_none fun _ _ => rfl
      rw [e1, e2]
      simp [fromOf, toOf, allOf]
  · have hal : allOf n many = false := by
      unfold allOf
      cases many
      · rfl
      · simp; intro e; exact ha ⟨rfl, e⟩
    rcases place_split l n hs with ⟨h, h'⟩ | ⟨h, A, x, B, hL, hi, hx, hA, hB⟩
    · rw [if_pos (by simp [isOf, hal, h])]
      exact .inl ⟨rfl, .inr ⟨ha, h'⟩⟩
    · rw [if_neg (by simp [isOf, hal, h]), if_pos hl]
      refine .inr ⟨fun x => x.f0 == n || many && decide (x.f0 < n), ?_, .inr ⟨ha, ⟨x, by rw [hL]; simp, hx⟩, fun _ => rfl⟩⟩
      have hto : toOf l n many = A.length + 1 := by simp [toOf, hal, hi]
      have hB1 : B.filter (fun x => x.f0 == n || many && decide (x.f0 < n)) = [] := filt_none fun y hy => by have := hB y hy; simp; omega
      have hB2 : B.filter (fun x => !(x.f0 == n || many && decide (x.f0 < n))) = B := filt_all fun y hy => by have := hB y hy; simp; omega
      rw [hto]
      have hL2 : l = (A ++ [x]) ++ B := by rw [hL]; simp
      have hd : l.drop (A.length + 1) = B := by rw [hL2, List.drop_left' (by simp)]
      have ht : l.take (A.length + 1) = A ++ [x] := by rw [hL2, List.take_left' (by simp)]
      cases many
      · have hfr : fromOf l n false = A.length := by simp [fromOf, hi]
        have hA1 : A.filter (fun x => x.f0 == n || false && decide (x.f0 < n)) = [] := filt_none fun y hy => by have := hA y hy; simp; omega
        have hA2 : A.filter (fun x => !(x.f0 == n || false && decide (x.f0 < n))) = A := filt_all fun y hy => by have := hA y hy; simp; omega
        have ht2 : l.take A.length = A := by rw [hL, List.take_left' rfl]
        rw [hfr, hd, ht, ht2, hL, List.filter_append, List.filter_append, hA1, hA2, List.filter_cons, List.filter_cons, hB1, hB2]
        simp [hx]
      · have hfr : fromOf l n true = 0 := by simp [fromOf]
        have hA1 : A.filter (fun x => x.f0 == n || true && decide (x.f0 < n)) = A := filt_all fun y hy => by have := hA y hy; simp; omega
        have hA2 : A.filter (fun x => !(x.f0 == n || true && decide (x.f0 < n))) = [] := filt_none fun y hy => by have := hA y hy; simp; omega
        rw [hfr, hd, ht, hL, List.filter_append, List.filter_append, hA1, hA2, List.filter_cons, List.filter_cons, hB1, hB2]
        simp [hx]
theorem GL.filter {nx last : Int} {l : List S47} (h : GL nx last l) (p : S47 → Bool) : GL nx last (l.filter p) := ⟨fun x hx => h.1 x (List.mem_filter.1 hx).1, h.2.filter _⟩
end Go.Proofs.Ytoljcjlflanflaa.Q
