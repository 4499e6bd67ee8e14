/- pool.Right answers what is right. -/
import Derived.Test.YtgiofigjnchfeaaL15
import Derived.Test.YtgiofigjnchfeaaH26
namespace Go.Proofs.Ytgiofigjnchfeaa.Q
open Go.RowKit Go.Proofs.YtgiofigjnchfeaaW.PrintWords Go.Proofs.YtgiofigjnchfeaaW.PrintLast Go.Proofs.YtgiofigjnchfeaaW.PrintMore
set_option linter.unusedVariables false
set_option linter.unusedSimpArgs false

/-- Who was seen ahead of the place i. -/
def SeenL (L : List S29) (seen : List Int) (i : Nat) : Prop := ∀ v : Int, v ∈ seen ↔ v ≠ 0 ∧ ∃ t : Nat, t < i ∧ (rd_T29 L t).f3 = v
theorem SeenL.next {L : List S29} {seen : List Int} {i : Nat} (h : SeenL L seen i) : SeenL L (if (rd_T29 L i).f3 = 0 then seen else (rd_T29 L i).f3 :: seen) (i + 1) := by
  intro v
  by_cases e : (rd_T29 L i).f3 = 0
  · rw [if_pos e, h v]
    constructor
    · rintro ⟨h1, t, h2, h3⟩; exact ⟨h1, t, by omega, h3⟩
    · rintro ⟨h1, t, h2, h3⟩
      refine ⟨h1, t, ?_, h3⟩
      by_cases et : t = i
      · subst et; omega
      · omega
  · rw [if_neg e, List.mem_cons, h v]
    constructor
    · rintro (rfl | ⟨h1, t, h2, h3⟩)
      · exact ⟨e, i, by omega, rfl⟩
      · exact ⟨h1, t, by omega, h3⟩
    · rintro ⟨h1, t, h2, h3⟩
      by_cases et : t = i
      · subst et; exact .inl h3.symm
      · exact .inr ⟨h1, t, by omega, h3⟩
theorem slotBad_iff {M : List Int} {L : List S29} {seen : List Int} {i : Nat} (h : SeenL L seen i) :
    slotBad M (if i = 0 then none else some (rd_T29 L ((i : Int) - 1))) seen (rd_T29 L i) = false ↔ okAt M L i := by
  have hs : seen.contains (rd_T29 L i).f3 = false ↔ ∀ t : Nat, t < i → (rd_T29 L i).f3 = 0 ∨ (rd_T29 L t).f3 ≠ (rd_T29 L i).f3 := by
    rw [← Bool.not_eq_true, List.contains_iff_mem, h]
    constructor
    · intro h1 t ht
      by_cases e : (rd_T29 L i).f3 = 0
      · exact .inl e
      · exact .inr (fun e2 => h1 ⟨e, t, ht, e2⟩)
    · rintro h1 ⟨h2, t, ht, e⟩
      rcases h1 t ht with h3 | h3
      · exact h2 h3
      · exact h3 e
  have hn : notLt (if i = 0 then none else some (rd_T29 L ((i : Int) - 1))) (rd_T29 L i) = false ↔ (0 < i → ¬ ((rd_T29 L ((i : Int) - 1)).f0 > (rd_T29 L i).f0) ∧ ((rd_T29 L ((i : Int) - 1)).f0 = (rd_T29 L i).f0 → (rd_T29 L ((i : Int) - 1)).f1 < (rd_T29 L i).f1)) := by
    by_cases hi : i = 0
    · subst hi; rw [if_pos rfl]; simp [notLt]
    · rw [if_neg hi]
      have h0 : 0 < i := by omega
      generalize rd_T29 L ((i : Int) - 1) = p
      generalize rd_T29 L i = x
      simp only [notLt, Bool.not_eq_false', Bool.or_eq_true, Bool.and_eq_true, decide_eq_true_eq, beq_iff_eq, h0, true_implies]
      omega
  unfold slotBad okAt
  simp only [Bool.or_eq_false_iff, hs, hn, decide_eq_false_iff_not, bne_eq_false_iff_eq]
  have hb : ((rd_T29 L i).f2 == 3) = ((rd_T29 L i).f3 == 0) ↔ ((rd_T29 L i).f2 = 3 ↔ (rd_T29 L i).f3 = 0) := by
    rw [Bool.eq_iff_iff, beq_iff_eq, beq_iff_eq]
  rw [hb]
  constructor
  · rintro ⟨⟨⟨h1, ((h2 : (_ ∧ _) ∧ _) : _)⟩, ((h3 : _) : _)⟩, h4⟩
    obtain ⟨⟨⟨a1, a2⟩, a3⟩, a4⟩ := h2
    obtain ⟨⟨a5, a6⟩, a7⟩ := h3
    exact ⟨by omega, by omega, by omega, by omega, by omega, by omega, by omega, a7, h1, h4.2⟩
  · rintro ⟨a1, a2, a3, a4, a5, a6, a7, a8, a9, b1⟩
    exact ⟨⟨⟨a9, ⟨⟨by omega, by omega⟩, by omega⟩, by omega⟩, ⟨by omega, by omega⟩, a8⟩, by omega, b1⟩
theorem rightGo_iff (M : List Int) (L : List S29) : ∀ (r i : Nat) (seen : List Int), i + r = L.length → SeenL L seen i →
    (rightGo M (if i = 0 then none else some (rd_T29 L ((i : Int) - 1))) seen (L.drop i) = true ↔ ∀ t : Nat, i ≤ t → t < L.length → okAt M L t)
  | 0, i, seen, hi, h => by
    rw [List.drop_of_length_le (by omega)]
    simp only [rightGo, true_iff]
    intro t h1 h2; omega
  | r + 1, i, seen, hi, h => by
    have hil : i < L.length := by omega
    have ih := rightGo_iff M L r (i + 1) _ (by omega) h.next
    rw [if_neg (by omega), show (((i + 1 : Nat) : Int) - 1) = (i : Int) from by omega] at ih
    rw [List.drop_eq_getElem_cons hil, ← rd29_nat hil, rightGo]
    cases hb : slotBad M (if i = 0 then none else some (rd_T29 L ((i : Int) - 1))) seen (rd_T29 L i) with
    | true =>
      rw [if_pos rfl]
      simp only [Bool.false_eq_true, false_iff]
      intro hall
      have := (slotBad_iff h).2 (hall i (Nat.le_refl _) hil)
      rw [hb] at this
      cases this
    | false =>
      rw [if_neg (by decide), ih]
      have hok := (slotBad_iff h).1 hb
      constructor
      · intro h1 t ht1 ht2
        by_cases e : t = i
        · subst e; exact hok
        · exact h1 t (by omega) ht2
      · intro h1 t ht1 ht2
        exact h1 t (by omega) ht2
theorem anyMax_iff (M : List Int) : M.any badMax = false ↔ ∀ i : Nat, i < M.length → 0 ≤ rd M i ∧ rd M i ≤ 65535 := by
  rw [← Bool.not_eq_true, List.any_eq_true]
  constructor
  · intro h i hi
    rw [rd_nat hi]
    have h1 : ¬ badMax M[i] = true := fun e => h ⟨M[i], List.getElem_mem hi, e⟩
    unfold badMax at h1
    simp only [Bool.or_eq_true, decide_eq_true_eq] at h1
    omega
  · rintro h ⟨x, hx, e⟩
    obtain ⟨i, hi, rfl⟩ := List.getElem_of_mem hx
    have h1 := h i hi
    rw [rd_nat hi] at h1
    unfold badMax at e
    simp only [Bool.or_eq_true, decide_eq_true_eq] at e
    omega
theorem pool_Right_val {M : List Int} {L : List S29} {v : Bool} (h : pool_Right.f M L = some v) : v = true ↔ RightP M L := by
  unfold pool_Right.f at h
  split at h
  · obtain rfl := Option.some.inj h
    have hg := rightGo_iff M L L.length 0 [] (by omega) (fun v => by simp)
    rw [if_pos rfl, List.drop_zero] at hg
    unfold RightP
    by_cases h1 : 64 < M.length
    · rw [if_pos h1]
      simp only [Bool.false_eq_true, false_iff]
      intro hh; omega
    · rw [if_neg h1]
      cases h2 : M.any badMax with
      | true =>
        rw [if_pos rfl]
        simp only [Bool.false_eq_true, false_iff]
        intro hh
        have := (anyMax_iff M).2 hh.2.1
        rw [h2] at this
        cases this
      | false =>
        rw [if_neg (by decide), hg]
        constructor
        · exact fun hh => ⟨by omega, (anyMax_iff M).1 h2, fun i hi => hh i (Nat.zero_le _) hi⟩
        · exact fun hh t _ ht => hh.2.2 t ht
  · cases h
theorem pool_Right_some {M : List Int} {L : List S29} (hL : L.length ≤ 4398046511000) (hw : ∀ s ∈ L, (Lit.int .i64 s.f3).wf = true) : ∃ v, pool_Right.f M L = some v := by
  unfold pool_Right.f
  have : (L.all fun s => decide (-9223372036854775808 ≤ s.f3) && decide (s.f3 ≤ 9223372036854775807)) = true := by
    rw [List.all_eq_true]
    intro s hs
    have h1 := hw s hs
    simp [Lit.wf, IntKind.min, IntKind.max, IntKind.bits, IntKind.signed] at h1
    simp only [Bool.and_eq_true, decide_eq_true_eq]
    omega
  rw [if_pos ⟨hL, this⟩]
  exact ⟨_, rfl⟩
end Go.Proofs.Ytgiofigjnchfeaa.Q
