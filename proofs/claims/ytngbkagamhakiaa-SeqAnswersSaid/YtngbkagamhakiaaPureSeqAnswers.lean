/- SeqAnswers's plain law: what is told at once are just the numbers that were confirmed, of those that weren't yet. -/
import Derived.Test.YtngbkagamhakiaaQ5
import Derived.Test.YtngbkagamhakiaaL16
namespace Go.Proofs.Ytngbkagamhakiaa.Pure
open Go.RowKit Go.Proofs.Ytngbkagamhakiaa.Q Go.Proofs.YtngbkagamhakiaaW.PrintWords Go.Proofs.YtngbkagamhakiaaW.PrintLast Go.Proofs.YtngbkagamhakiaaW.PrintMore
set_option linter.unusedVariables false
set_option linter.unusedSimpArgs false

theorem maxFold_spec : ∀ (l : List Int) (m : Int), (l.foldl maxStep m = m ∨ l.foldl maxStep m ∈ l) ∧ m ≤ l.foldl maxStep m ∧ ∀ x ∈ l, x ≤ l.foldl maxStep m
  | [], m => ⟨.inl rfl, Int.le_refl _, fun x hx => by cases hx⟩
  | a :: r, m => by
    have ih := maxFold_spec r (maxStep m a)
    have hs : (maxStep m a = m ∨ maxStep m a = a) ∧ m ≤ maxStep m a ∧ a ≤ maxStep m a := by
      unfold maxStep
      split
      · exact ⟨.inr rfl, by omega, by omega⟩
      · exact ⟨.inl rfl, by omega, by omega⟩
    simp only [List.foldl_cons]
    refine ⟨?_, Int.le_trans hs.2.1 ih.2.1, fun x hx => ?_⟩
    · rcases ih.1 with h | h
      · rcases hs.1 with e | e
        · left; rw [h, e]
        · right; rw [h, e]; exact List.mem_cons_self
      · right; exact List.mem_cons_of_mem _ h
    · rcases List.mem_cons.1 hx with rfl | hx
      · exact Int.le_trans hs.2.2 ih.2.1
      · exact ih.2.2 x hx
theorem maxOf_spec (l : List Int) (h : l ≠ []) : maxOf l ∈ l ∧ ∀ x ∈ l, x ≤ maxOf l := by
  cases l with
  | nil => exact absurd rfl h
  | cons a r =>
    have hs := maxFold_spec (a :: r) a
    refine ⟨?_, hs.2.2⟩
    unfold maxOf
    rcases hs.1 with e | e
    · show (a :: r).foldl maxStep a ∈ _
      rw [e]; exact List.mem_cons_self
    · exact e
theorem filter_eq_one (L : List Int) (hp : L.Pairwise (· < ·)) (a : Int) (h : a ∈ L) : (L.filter fun x => x == a).length = 1 := by
  induction L with
  | nil => cases h
  | cons b r ih =>
    rw [List.pairwise_cons] at hp
    by_cases e : b = a
    · subst e
      have h0 : (r.filter fun x => x == b) = [] := by
        rw [List.filter_eq_nil_iff]
        intro x hx
        have := hp.1 x hx
        simp; omega
      simp [h0]
    · have : (b == a) = false := by simpa using e
      simp only [List.filter_cons, this, Bool.false_eq_true, if_false]
      rcases List.mem_cons.1 h with h | h
      · exact absurd h.symm e
      · exact ih hp.2 h

theorem filter_hit {q : Int → Bool} {a : Int} (t : List Int) (h : q a = true) : (a :: t).filter q = a :: t.filter q := by rw [List.filter_cons, if_pos h]
theorem filter_miss {q : Int → Bool} {a : Int} (t : List Int) (h : q a = false) : (a :: t).filter q = t.filter q := by rw [List.filter_cons, if_neg (by rw [h]; simp)]
theorem answers_l0 (told : List Int) (last : Int) (at_ on : Bool) (nx off : Int) (s : List Int) (hn : s.length ≤ 9223372036854775807) (d : Nat) : ∀ (k n c : Nat), c ≤ n → n ≤ s.length → s.length - n = d → d < k →
    interchangelaw16_SeqAnswers.l0 k true told last true at_ (c : Int) (n : Int) on nx off s = if ((c + ((s.drop n).filter fun x => x == last || at_ && decide (x < last)).length : Nat) : Int) = (told.length : Int) then some (at_ == decide ((told.length : Int) > 1)) else some false := by
  induction d with
  | zero =>
    intro k n c hc h1 hd hk
    obtain ⟨k, rfl⟩ : ∃ m, k = m + 1 := ⟨k - 1, by omega⟩
    obtain rfl : n = s.length := by omega
    simp only [interchangelaw16_SeqAnswers.l0]
    rw [if_neg (by omega), List.drop_length]
    simp only [if_true, List.filter_nil, List.length_nil, Nat.add_zero]
    first | done | rfl | (by_cases h : (c : Int) = (told.length : Int) <;> simp [h])
  | succ d ih =>
    intro k n c hc h1 hd hk
    obtain ⟨k, rfl⟩ : ∃ m, k = m + 1 := ⟨k - 1, by omega⟩
    have hlt : n < s.length := by omega
    have hdr : s.drop n = s[n] :: s.drop (n + 1) := List.drop_eq_getElem_cons hlt
    simp only [interchangelaw16_SeqAnswers.l0]
    rw [if_pos (by omega), if_pos (by omega), rd_nat s n hlt, wrap_nat hlt hn, wrap_nat (show c < s.length by omega) hn]
    have i1 := ih k (n + 1) (c + 1) (by omega) (by omega) (by omega) (by omega)
    have i2 := ih k (n + 1) c (by omega) (by omega) (by omega) (by omega)
    rw [hdr]
    by_cases e : s[n] = last
    · rw [if_pos e, i1]
      have : (s[n] == last || at_ && decide (s[n] < last)) = true := by simp [e]
      rw [filter_hit (q := fun x => x == last || at_ && decide (x < last)) _ this, List.length_cons]
      congr 2
      omega
    · rw [if_neg e]
      cases at_
      · rw [if_neg (by simp), i2]
        have : (s[n] == last || false && decide (s[n] < last)) = false := by simp [e]
        rw [filter_miss (q := fun x => x == last || false && decide (x < last)) _ this]
      · rw [if_pos rfl]
        by_cases e2 : s[n] < last
        · rw [if_pos e2, i1]
          have : (s[n] == last || true && decide (s[n] < last)) = true := by simp [e2]
          rw [filter_hit (q := fun x => x == last || true && decide (x < last)) _ this, List.length_cons]
          congr 2
          omega
        · rw [if_neg e2, i2]
          have : (s[n] == last || true && decide (s[n] < last)) = false := by simp [e, e2]
          rw [filter_miss (q := fun x => x == last || true && decide (x < last)) _ this]

theorem SeqAnswers (a0_0 : Bool) (a0_1 : Int) (w1 : (Lit.int .u64 a0_1).wf = true) (a0_2 : Int) (w2 : (Lit.int .u64 a0_2).wf = true) (l0_3 : List Int) (hb : l0_3.length * 8 ≤ 140737488351232) (hw : ∀ x ∈ l0_3, (Lit.int .u64 x).wf = true) (a1 : Int) (w3 : (Lit.int .u64 a1).wf = true) (a2 : Bool) : ∃ k, interchangelaw16_SeqAnswers.f k a0_0 a0_1 a0_2 l0_3 a1 a2 = some true := by
  have h4 := u64_wf w3
  have h1 := u64_wf w1
  have h2 := u64_wf w2
  have hl : l0_3.length ≤ 17592186044000 := by omega
  have hl' : l0_3.length ≤ 9223372036854775807 := by omega
  obtain ⟨k, hk⟩ : ∃ k, l0_3.length + 300 < k := ⟨_, Nat.lt_succ_self _⟩
  obtain ⟨b, hr, hg⟩ := right_ok a0_0 a0_1 a0_2 l0_3 h1 h2 hl' (k + 1) (by omega)
  refine ⟨k + 1, ?_⟩
  unfold interchangelaw16_SeqAnswers.f
  rw [interchangelaw16_shown_true, hr]
  simp only [Option.bind_some]
  cases b
  · simp
  rw [if_pos rfl]
  have hG := hg rfl
  rcases confirm_cases a0_0 a0_1 a0_2 l0_3 a1 a2 hG h2.1 h4 hl with ⟨hc, _, _⟩ | ⟨p, hc, hp⟩
  · rw [hc]
    simp [seq_Answer.f, interchangelaw16_SeqAnswers.j0]
  rw [hc]
  simp only [Option.bind_some, if_true]
  have hsort : l0_3.Pairwise (· < ·) := by
    rcases hG with ⟨_, _, _, rfl⟩ | ⟨_, _, _, _, h⟩
    · exact List.Pairwise.nil
    · exact h
  generalize hT : l0_3.filter p = told
  generalize hK : (l0_3.filter fun n => !p n) = kept
  by_cases c0 : told.length = 0
  · have : seq_Answer.f told a0_0 a0_1 a0_2 kept = some (0, false, false) := by unfold seq_Answer.f; rw [if_pos c0]
    rw [this]
    have e : ((told.length : Int) == 0) = true := by simp [c0]
    simp [interchangelaw16_SeqAnswers.j0, e]
  have hne : told ≠ [] := fun e => c0 (by rw [e]; rfl)
  obtain ⟨hmem, hmax⟩ := maxOf_spec told hne
  have hmL : maxOf told ∈ l0_3 := by rw [← hT] at hmem; rw [hT] at hmem; exact (List.mem_filter.1 (by rw [hT]; exact hmem)).1
  have e0 : ((told.length : Int) == 0) = false := by simp; exact hne
  have hloop := fun at_ => answers_l0 told (maxOf told) at_ a0_0 a0_1 a0_2 l0_3 hl' l0_3.length k 0 0 (by omega) (by omega) (by omega) (by omega)
  by_cases c1 : told.length = 1
  · have : seq_Answer.f told a0_0 a0_1 a0_2 kept = some (maxOf told, true, false) := by unfold seq_Answer.f; rw [if_neg c0, if_pos c1]
    rw [this]
    simp only [Option.bind_some, interchangelaw16_SeqAnswers.j0, e0]
    have h := hloop false
    rw [Int.natCast_zero, List.drop_zero] at h
    have hf : (l0_3.filter fun x => x == maxOf told || false && decide (x < maxOf told)).length = 1 := by
      have := filter_eq_one l0_3 hsort (maxOf told) hmL
      simpa using this
    rw [hf, c1] at h
    simp only [Bool.false_eq_true, if_false]
    rw [h]
    simp
  · -- more than one: all up to the last
    have hle : ∀ x ∈ l0_3, p x = true ↔ x ≤ maxOf told := by
      intro x hx
      constructor
      · intro h
        exact hmax x (by rw [← hT]; exact List.mem_filter.2 ⟨hx, h⟩)
      · intro h
        rcases hp with ⟨_, _, hall⟩ | ⟨_, _, _, hin, hp⟩
        · exact hall x
        · have hpm : p (maxOf told) = true := by
            rw [← hT] at hmem
            rw [hT] at hmem
            exact (List.mem_filter.1 (by rw [hT]; exact hmem)).2
          cases a2
          · exfalso
            have hone : (l0_3.filter p).length = 1 := by
              have := filter_eq_one l0_3 hsort _ hin
              rw [← this]
              congr 1
              exact List.filter_congr (fun x _ => by rw [hp]; simp)
            rw [hT] at hone
            exact c1 hone
          · rw [hp] at hpm ⊢
            simp at hpm ⊢
            omega
    have hany : (kept.any fun n => decide (n ≤ maxOf told)) = false := by
      rw [List.any_eq_false]
      intro x hx
      rw [← hK] at hx
      obtain ⟨h1, h2⟩ := List.mem_filter.1 hx
      have := hle x h1
      simp at h2
      rw [h2] at this
      simp at this ⊢
      exact this
    have : seq_Answer.f told a0_0 a0_1 a0_2 kept = some (maxOf told, true, true) := by
      unfold seq_Answer.f
      rw [if_neg c0, if_neg c1, if_neg (by rw [hany]; simp)]
    rw [this]
    simp only [Option.bind_some, interchangelaw16_SeqAnswers.j0, e0]
    have h := hloop true
    rw [Int.natCast_zero, List.drop_zero] at h
    have hf : (l0_3.filter fun x => x == maxOf told || true && decide (x < maxOf told)) = told := by
      rw [← hT]
      refine List.filter_congr (fun x hx => ?_)
      rw [hT]
      have := hle x hx
      rw [Bool.eq_iff_iff, this]
      simp
      omega
    rw [hf] at h
    simp only [Bool.false_eq_true, if_false]
    rw [h, if_pos (by omega)]
    have : (told.length : Int) > 1 := by omega
    simp [this]

end Go.Proofs.Ytngbkagamhakiaa.Pure
