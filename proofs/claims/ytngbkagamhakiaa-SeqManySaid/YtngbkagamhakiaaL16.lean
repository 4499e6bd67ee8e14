/- Plain laws of chapter 16: what is right, what is confirmed. -/
import Derived.Test.YtngbkagamhakiaaQ13
import Derived.Test.YtngbkagamhakiaaQ15
import Derived.Test.YtngbkagamhakiaaQ16
import Derived.Test.YtngbkagamhakiaaQ10
import Derived.Test.YtngbkagamhakiaaH9
import Derived.Test.YtngbkagamhakiaaH11
import Derived.Test.YtngbkagamhakiaaH12
import Derived.Test.YtngbkagamhakiaaH14
namespace Go.Proofs.Ytngbkagamhakiaa.Q
open Go.RowKit Go.Proofs.YtngbkagamhakiaaW.PrintWords Go.Proofs.YtngbkagamhakiaaW.PrintLast Go.Proofs.YtngbkagamhakiaaW.PrintMore
set_option linter.unusedVariables false
set_option linter.unusedSimpArgs false

theorem u64_wrap (x : Int) : IntKind.u64.wrap x = x % 18446744073709551616 := by simp [IntKind.wrap, IntKind.bits, IntKind.signed]
theorem u64_wf {a : Int} (h : (Lit.int .u64 a).wf = true) : 0 ≤ a ∧ a ≤ 18446744073709551615 := by
  simp [Lit.wf, IntKind.min, IntKind.max, IntKind.bits, IntKind.signed] at h
  omega
theorem i64_wf {a : Int} (h : (Lit.int .i64 a).wf = true) : -9223372036854775808 ≤ a ∧ a ≤ 9223372036854775807 := by
  simp [Lit.wf, IntKind.min, IntKind.max, IntKind.bits, IntKind.signed] at h
  omega

/-- What is right. -/
def Good (on : Bool) (nx off : Int) (l : List Int) : Prop :=
  (on = false ∧ nx = 0 ∧ off = 0 ∧ l = []) ∨ (on = true ∧ 1 ≤ nx ∧ nx + off ≤ 18446744073709551615 ∧ (∀ x ∈ l, 1 ≤ x ∧ x < nx) ∧ l.Pairwise (· < ·))

theorem right_l0 (on : Bool) (nx off : Int) (l : List Int) (hn : l.length ≤ 9223372036854775807) (d : Nat) : ∀ (k n : Nat), n ≤ l.length → l.length - n = d → d < k →
    (∀ x ∈ l.take n, 1 ≤ x ∧ x < nx) → (l.take n).Pairwise (· < ·) →
    ∃ b, interchangeref16_Right.l0 k (n : Int) on nx off l = some b ∧ (b = true → (∀ x ∈ l, 1 ≤ x ∧ x < nx) ∧ l.Pairwise (· < ·)) := by
  induction d with
  | zero =>
    intro k n h1 hd hk ha hp
    obtain ⟨k, rfl⟩ : ∃ m, k = m + 1 := ⟨k - 1, by omega⟩
    obtain rfl : n = l.length := by omega
    simp only [interchangeref16_Right.l0]
    rw [if_neg (by omega)]
    rw [List.take_length] at ha hp
    exact ⟨true, rfl, fun _ => ⟨ha, hp⟩⟩
  | succ d ih =>
    intro k n h1 hd hk ha hp
    obtain ⟨k, rfl⟩ : ∃ m, k = m + 1 := ⟨k - 1, by omega⟩
    have hlt : n < l.length := by omega
    have htk : l.take (n + 1) = l.take n ++ [l[n]] := List.take_succ_eq_append_getElem hlt
    simp only [interchangeref16_Right.l0]
    rw [if_pos (by omega), if_pos (by omega), rd_nat l n hlt, wrap_nat hlt hn]
    by_cases c1 : l[n] < 1
    · rw [if_pos c1]; exact ⟨false, rfl, fun h => by cases h⟩
    rw [if_neg c1]
    by_cases c2 : l[n] ≥ nx
    · rw [if_pos c2]; exact ⟨false, rfl, fun h => by cases h⟩
    rw [if_neg c2]
    have ha' : ∀ x ∈ l.take (n + 1), 1 ≤ x ∧ x < nx := by
      intro x hx
      rw [htk, List.mem_append] at hx
      rcases hx with hx | hx
      · exact ha x hx
      · rw [List.mem_singleton] at hx
        subst hx
        omega
    by_cases c3 : (n : Int) > 0
    · obtain ⟨m, rfl⟩ : ∃ m, n = m + 1 := ⟨n - 1, by omega⟩
      have hw : wrap64 (((m + 1 : Nat) : Int) - 1) = (m : Int) := by unfold wrap64; omega
      rw [if_pos c3, hw, if_pos (by omega), if_pos (by omega), rd_nat l m (by omega)]
      by_cases c4 : l[m] ≥ l[m + 1]
      · rw [if_pos c4]; exact ⟨false, rfl, fun h => by cases h⟩
      · rw [if_neg c4]
        refine ih k (m + 1 + 1) (by omega) (by omega) (by omega) ha' ?_
        rw [htk, List.pairwise_append]
        refine ⟨hp, List.pairwise_singleton _ _, fun a hx b hb => ?_⟩
        rw [List.mem_singleton] at hb
        subst hb
        have htm : l.take (m + 1) = l.take m ++ [l[m]] := List.take_succ_eq_append_getElem (by omega)
        rw [htm, List.pairwise_append] at hp
        rw [htm, List.mem_append] at hx
        rcases hx with hx | hx
        · have := hp.2.2 a hx l[m] (List.mem_singleton.2 rfl); omega
        · rw [List.mem_singleton] at hx; omega
    · obtain rfl : n = 0 := by omega
      rw [if_neg c3]
      refine ih k 1 (by omega) (by omega) (by omega) ha' ?_
      rw [htk]
      simp

theorem right_ok (on : Bool) (nx off : Int) (l : List Int) (hnx : 0 ≤ nx ∧ nx ≤ 18446744073709551615) (hof : 0 ≤ off ∧ off ≤ 18446744073709551615) (hn : l.length ≤ 9223372036854775807) (k : Nat) (hk : l.length + 1 < k) :
    ∃ b, interchangeref16_Right.f k on nx off l = some b ∧ (b = true → Good on nx off l) := by
  obtain ⟨k, rfl⟩ : ∃ m, k = m + 1 := ⟨k - 1, by omega⟩
  unfold interchangeref16_Right.f
  cases on
  · rw [if_neg (by simp)]
    by_cases c1 : nx = 0
    · rw [if_pos c1]
      by_cases c2 : off = 0
      · rw [if_pos c2]
        refine ⟨_, rfl, fun h => .inl ⟨rfl, c1, c2, ?_⟩⟩
        have := beq_iff_eq.1 h
        exact List.eq_nil_of_length_eq_zero (by omega)
      · rw [if_neg c2]; exact ⟨false, rfl, fun h => by cases h⟩
    · rw [if_neg c1]; exact ⟨false, rfl, fun h => by cases h⟩
  · rw [if_pos rfl]
    simp only [interchangeref16_Right.j0]
    by_cases c1 : nx < 1
    · rw [if_pos c1]; simp only [if_true]; exact ⟨false, rfl, fun h => by cases h⟩
    · rw [if_neg c1, u64_wrap]
      by_cases c2 : off > (18446744073709551615 - nx) % 18446744073709551616
      · rw [if_pos (decide_eq_true c2)]; exact ⟨false, rfl, fun h => by cases h⟩
      · rw [if_neg (by rw [decide_eq_false c2]; simp)]
        obtain ⟨b, hb, hg⟩ := right_l0 true nx off l hn l.length k 0 (by omega) (by omega) (by omega) (by simp) (by simp)
        refine ⟨b, hb, fun h => .inr ⟨rfl, by omega, by omega, hg h⟩⟩

theorem cons_dec {x y : Int} {s t : List Int} (h : x = y) : decide (x :: s = y :: t) = decide (s = t) := by subst h; simp
theorem cons_ndec {x y : Int} {s t : List Int} (h : ¬ x = y) : decide (x :: s = y :: t) = false := by simp [h]
theorem nums_l0 (a b : List Int) (hn : a.length ≤ 9223372036854775807) (hl : a.length = b.length) (d : Nat) : ∀ (k n : Nat), n ≤ a.length → a.length - n = d → d < k →
    interchangeref15_Nums.l0 k a b (n : Int) = some (decide (a.drop n = b.drop n)) := by
  induction d with
  | zero =>
    intro k n h1 hd hk
    obtain ⟨k, rfl⟩ : ∃ m, k = m + 1 := ⟨k - 1, by omega⟩
    obtain rfl : n = a.length := by omega
    simp only [interchangeref15_Nums.l0]
    rw [if_neg (by omega), List.drop_length, hl, List.drop_length]
    rfl
  | succ d ih =>
    intro k n h1 hd hk
    obtain ⟨k, rfl⟩ : ∃ m, k = m + 1 := ⟨k - 1, by omega⟩
    have hlt : n < a.length := by omega
    simp only [interchangeref15_Nums.l0]
    rw [if_pos (by omega), if_pos (by omega), if_pos (by omega), rd_nat a n hlt, rd_nat b n (by omega), wrap_nat hlt hn, ih k (n + 1) (by omega) (by omega) (by omega)]
    have hda : a.drop n = a[n] :: a.drop (n + 1) := List.drop_eq_getElem_cons hlt
    have hdb : b.drop n = b[n] :: b.drop (n + 1) := List.drop_eq_getElem_cons (by omega)
    by_cases e : a[n] = b[n]'(by omega)
    · rw [if_pos e, hda, hdb, cons_dec e]
    · rw [if_neg e, hda, hdb, cons_ndec e]
theorem nums_ok (a b : List Int) (hn : a.length ≤ 9223372036854775807) (k : Nat) (hk : a.length < k) : interchangeref15_Nums.f k a b = some (decide (a = b)) := by
  unfold interchangeref15_Nums.f
  by_cases hl : a.length = b.length
  · rw [if_pos (by omega)]
    have h := nums_l0 a b hn hl a.length k 0 (by omega) (by omega) hk
    rw [Int.natCast_zero] at h
    rw [h]
    simp
  · rw [if_neg (by omega)]
    have : a ≠ b := fun e => hl (by rw [e])
    simp [this]
theorem equal_l0 (a b : List Int) (hn : a.length ≤ 9223372036854775807) (hl : a.length = b.length) (d : Nat) : ∀ (k n : Nat), n ≤ a.length → a.length - n = d → d < k →
    slices_Equal_uint64_uint64.l0 k a b (a.length : Int) (n : Int) = some (decide (a.drop n = b.drop n)) := by
  induction d with
  | zero =>
    intro k n h1 hd hk
    obtain ⟨k, rfl⟩ : ∃ m, k = m + 1 := ⟨k - 1, by omega⟩
    obtain rfl : n = a.length := by omega
    simp only [slices_Equal_uint64_uint64.l0]
    rw [if_neg (by omega), List.drop_length, hl, List.drop_length]
    rfl
  | succ d ih =>
    intro k n h1 hd hk
    obtain ⟨k, rfl⟩ : ∃ m, k = m + 1 := ⟨k - 1, by omega⟩
    have hlt : n < a.length := by omega
    simp only [slices_Equal_uint64_uint64.l0]
    rw [if_pos (by omega), if_pos (by omega), if_pos (by omega), if_pos (by omega), rd_nat a n hlt, rd_nat b n (by omega), wrap_nat hlt hn, ih k (n + 1) (by omega) (by omega) (by omega)]
    have hda : a.drop n = a[n] :: a.drop (n + 1) := List.drop_eq_getElem_cons hlt
    have hdb : b.drop n = b[n] :: b.drop (n + 1) := List.drop_eq_getElem_cons (by omega)
    by_cases e : a[n] = b[n]'(by omega)
    · rw [if_pos e, hda, hdb, cons_dec e]
    · rw [if_neg e, hda, hdb, cons_ndec e]
theorem equal_ok (a b : List Int) (hn : a.length ≤ 9223372036854775807) (k : Nat) (hk : a.length < k) : slices_Equal_uint64_uint64.f k a b = some (decide (a = b)) := by
  unfold slices_Equal_uint64_uint64.f
  by_cases hl : a.length = b.length
  · rw [if_pos (by omega)]
    have h := equal_l0 a b hn hl a.length k 0 (by omega) (by omega) hk
    rw [Int.natCast_zero] at h
    rw [h]
    simp
  · rw [if_neg (by omega)]
    have : a ≠ b := fun e => hl (by rw [e])
    simp [this]
/-- Two that are the same are told to be. -/
theorem same_refl (on : Bool) (nx off : Int) (l : List Int) (hn : l.length ≤ 9223372036854775807) (k : Nat) (hk : l.length < k) : seq_Same.f k on nx off l on nx off l = some true := by
  unfold seq_Same.f
  rw [if_pos (by simp), if_pos rfl, if_pos rfl, equal_ok l l hn k hk]
  simp

/-- Confirm, of what is right: refused; or these. -/
theorem confirm_cases (on : Bool) (nx off : Int) (l : List Int) (up : Int) (many : Bool) (hg : Good on nx off l) (hof : 0 ≤ off) (hup : 0 ≤ up ∧ up ≤ 18446744073709551615) (hl : l.length ≤ 17592186044000) :
    (seq_Confirm.f on nx off l up many = some (on, nx, off, l, [], 16) ∧ ¬ (many = true ∧ up = 0) ∧ up - off ∉ l) ∨
    (∃ p : Int → Bool, seq_Confirm.f on nx off l up many = some (on, nx, off, l.filter (fun n => !p n), l.filter p, 0) ∧
      ((many = true ∧ up = 0 ∧ ∀ n, p n = true) ∨ (¬ (many = true ∧ up = 0) ∧ on = true ∧ off < up ∧ up - off ∈ l ∧ ∀ n, p n = (n == up - off || many && decide (n < up - off))))) := by
  unfold seq_Confirm.f
  by_cases ha : many = true ∧ up = 0
  · obtain ⟨rfl, rfl⟩ := ha
    have hr : refused on off l 0 true = false := by simp [refused, allOf]
    rw [hr, if_neg (by simp), if_pos hl]
    exact .inr ⟨fun n => isIn (allOf true 0) true (topOf off 0) n, rfl, .inl ⟨rfl, rfl, fun n => by simp [isIn, allOf]⟩⟩
  · have hal : allOf many up = false := by
      unfold allOf
      cases many
      · rfl
      · simp; intro e; exact ha ⟨rfl, e⟩
    have htop : off < up → topOf off up = up - off := fun h => by unfold topOf; rw [u64_wrap]; omega
    by_cases hr : on = true ∧ off < up ∧ up - off ∈ l
    · obtain ⟨rfl, h1, h2⟩ := hr
      have hr : refused true off l up many = false := by
        simp only [refused, hal, htop h1]
        simp [h2]
        omega
      rw [hr, if_neg (by simp), if_pos hl]
      refine .inr ⟨fun n => isIn (allOf many up) many (topOf off up) n, rfl, .inr ⟨ha, rfl, h1, h2, fun n => ?_⟩⟩
      simp only [isIn, hal, htop h1, Bool.false_or]
    · have hr' : refused on off l up many = true := by
        simp only [refused, hal]
        by_cases h0 : on = true
        · by_cases h1 : off < up
          · rw [htop h1]
            have : up - off ∉ l := fun h => hr ⟨h0, h1, h⟩
            simp [this]
          · have h2 : decide (up ≤ off) = true := decide_eq_true (by omega)
            simp [h2]
        · simp at h0; simp [h0]
      rw [hr', if_pos rfl]
      refine .inl ⟨rfl, ha, fun hin => ?_⟩
      rcases hg with ⟨rfl, rfl, rfl, rfl⟩ | ⟨rfl, h1, h2, h3, h4⟩
      · cases hin
      · have := h3 _ hin
        exact hr ⟨rfl, by omega, hin⟩
end Go.Proofs.Ytngbkagamhakiaa.Q
