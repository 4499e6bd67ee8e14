/- PoolFewest: the plain law. -/
import Derived.Test.YtgiofigjnchfeaaL15
import Derived.Test.YtgiofigjnchfeaaQ3
namespace Go.Proofs.Ytgiofigjnchfeaa.Q
open Go.RowKit Go.Proofs.YtgiofigjnchfeaaW.PrintWords Go.Proofs.YtgiofigjnchfeaaW.PrintLast Go.Proofs.YtgiofigjnchfeaaW.PrintMore
set_option linter.unusedVariables false
set_option linter.unusedSimpArgs false

/-! PoolFewest. -/
theorem Few_l0 (M : List Int) (L : List S29) (hM : M.length ≤ 64) (hL : L.length ≤ 4611686018427387904) (who e s0 s1 s2 s3 : Int)
    (hno : ∀ c : Nat, c < M.length → e = 0 → (cntN c L : Int) < rd M c → 0 ≤ s0 → s0 < (M.length : Int) → ¬ (cntN c L : Int) < cntN s0 L)
    (hfin : who < 1 ∨ (∃ s, L.find? (ofP who) = some s) ∨ (((e = 0) ↔ ∃ c : Nat, c < M.length ∧ (cntN c L : Int) < rd M c) ∧ (e = 0 ∨ e = 12))) :
    ∀ (r c : Nat) (room : Bool), c + r = M.length → (room = true ↔ ∃ d : Nat, d < c ∧ (cntN d L : Int) < rd M d) → Ev (fun k => interchangelaw13_PoolFewest.l0 k who true e room c M L s0 s1 s2 s3) true
  | 0, c, room, hc, hroom => by
    refine Ev.succ (h := fun _ => some true) (fun k => ?_) (Ev.const _)
    simp only [interchangelaw13_PoolFewest.l0]
    rw [if_neg (by omega)]
    obtain rfl : c = M.length := by omega
    unfold pool_Of.f
    by_cases hw : who < 1
    · cases L.find? (ofP who) <;> simp [hw]
    · cases hf : L.find? (ofP who) with
      | some s => simp [hw]
      | none =>
        rcases hfin with h | ⟨s, h⟩ | ⟨h1, h2⟩
        · exact absurd h hw
        · rw [hf] at h; cases h
        · have h3 : (e == 0) = room := by
            rw [Bool.eq_iff_iff, hroom, beq_iff_eq]
            exact h1
          rcases h2 with h2 | h2
          · rw [← h3]; simp [hw, h2]
          · rw [← h3]; simp [hw, h2]
  | r + 1, c, room, hc, hroom => by
    have hcl : c < M.length := by omega
    have hw := w64 (n := c) (N := M.length) hcl (by omega)
    have hi0 : (c : Int) < (M.length : Int) := by omega
    have hi1 : (0 : Int) ≤ (c : Int) := by omega
    have hnext : ∀ room' : Bool, (room' = true ↔ room = true ∨ (cntN c L : Int) < rd M c) → Ev (fun k => interchangelaw13_PoolFewest.l0 k who true e room' (wrap64 ((c : Int) + 1)) M L s0 s1 s2 s3) true := by
      intro room' hr
      rw [hw]
      refine Few_l0 M L hM hL who e s0 s1 s2 s3 hno hfin r (c + 1) room' (by omega) ?_
      rw [hr, hroom]
      constructor
      · rintro (⟨d, hd, h⟩ | h)
        · exact ⟨d, by omega, h⟩
        · exact ⟨c, by omega, h⟩
      · rintro ⟨d, hd, h⟩
        by_cases e : d = c
        · subst e; exact .inr h
        · exact .inl ⟨d, by omega, h⟩
    have hlt := hno c hcl
    refine Ev.succ (fun k => by simp only [interchangelaw13_PoolFewest.l0]; rw [if_pos hi0]) ?_
    refine Ev.bind (Many_ev M L c hL) ?_
    cases room with
    | true =>
      have hn := hnext true (by simp)
      by_cases c0 : e = 0
      · by_cases c1 : (cntN c L : Int) < rd M c
        · by_cases c2 : s0 < (M.length : Int)
          · by_cases c3 : s0 ≥ 0
            · have hng := hlt c0 c1 c3 c2
              simp only [if_true, if_pos c0, if_pos hi1, if_pos c1, if_pos c2, if_pos c3]
              refine Ev.bind (Many_ev M L s0 hL) ?_
              simp only [if_neg hng]
              exact hn
            · simp only [if_true, if_pos c0, if_pos hi1, if_pos c1, if_pos c2, if_neg c3]
              exact hn
          · simp only [if_true, if_pos c0, if_pos hi1, if_pos c1, if_neg c2]
            exact hn
        · simp only [if_true, if_pos c0, if_pos hi1, if_neg c1]
          exact hn
      · simp only [if_true, if_neg c0]
        exact hn
    | false =>
      have hn := hnext (decide ((cntN c L : Int) < rd M c)) (by simp)
      by_cases c0 : e = 0
      · by_cases c1 : (cntN c L : Int) < rd M c
        · by_cases c2 : s0 < (M.length : Int)
          · by_cases c3 : s0 ≥ 0
            · have hng := hlt c0 c1 c3 c2
              simp only [Bool.false_eq_true, if_false, if_pos c0, if_pos hi1, if_pos c1, if_pos c2, if_pos c3]
              refine Ev.bind (Many_ev M L s0 hL) ?_
              simp only [if_neg hng]
              exact hn
            · simp only [Bool.false_eq_true, if_false, if_pos c0, if_pos hi1, if_pos c1, if_pos c2, if_neg c3]
              exact hn
          · simp only [Bool.false_eq_true, if_false, if_pos c0, if_pos hi1, if_pos c1, if_neg c2]
            exact hn
        · simp only [Bool.false_eq_true, if_false, if_pos c0, if_pos hi1, if_neg c1]
          exact hn
      · simp only [Bool.false_eq_true, if_false, if_neg c0, if_pos hi1]
        exact hn
theorem Fewest_core (M : List Int) (L : List S29) (who : Int) (hL : L.length ≤ 4611686018427387904) : ∃ k, interchangelaw13_PoolFewest.f k M L who = some true := by
  refine Ev.run (g := fun k => interchangelaw13_PoolFewest.f k M L who) (Ev.bind shown_ev ?_)
  obtain ⟨v, hv, hv2⟩ := few_ev M L hL
  refine Ev.bind hv ?_
  cases v with
  | false => exact Ev.pure (fun k => by simp)
  | true =>
    obtain ⟨hr, hl⟩ := hv2 rfl
    have hR := RightL.of hr
    simp only [if_true]
    rcases Lease_cases hR (by omega) who with ⟨h1, h2⟩ | ⟨h1, h3, h2⟩ | ⟨h1, h3, h4, h2⟩ | ⟨h1, h3, b, hb, h4, h5, -, h2⟩
    · rw [h2]
      exact Few_l0 M L hR.len hL who 1 0 0 0 0 (fun _ _ h => by cases h) (.inl h1) M.length 0 false (by omega) (by simp)
    · rw [h2]
      exact Few_l0 M L hR.len hL who 14 0 0 0 0 (fun _ _ h => by cases h) (.inr (.inl h3)) M.length 0 false (by omega) (by simp)
    · rw [h2]
      refine Few_l0 M L hR.len hL who 12 0 0 0 0 (fun _ _ h => by cases h) (.inr (.inr ⟨?_, .inr rfl⟩)) M.length 0 false (by omega) (by simp)
      constructor
      · intro h; cases h
      · rintro ⟨c, hc, h⟩; exact absurd h (h4 c hc)
    · rw [h2]
      refine Few_l0 M L hR.len hL who 0 b (chL b L) 1 who (fun c hc _ hcc _ _ => ?_) (.inr (.inr ⟨?_, .inl rfl⟩)) M.length 0 false (by omega) (by simp)
      · have := h5 c hc hcc; omega
      · exact ⟨fun _ => ⟨b, hb, h4⟩, fun _ => rfl⟩

end Go.Proofs.Ytgiofigjnchfeaa.Q
