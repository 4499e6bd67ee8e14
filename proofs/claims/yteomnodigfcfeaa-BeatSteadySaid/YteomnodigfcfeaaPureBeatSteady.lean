/- BeatSteady's plain law: where each Every something is got and a tick is done, nobody is gone; where a beat was sent none is to be sent until Every is over; what is to be done is to be done just when it is told. -/
import Derived.Test.YteomnodigfcfeaaQ8
import Derived.Test.YteomnodigfcfeaaL21
namespace Go.Proofs.Yteomnodigfcfeaa.Pure
open Go.RowKit Go.Proofs.Yteomnodigfcfeaa.Q Go.Proofs.YteomnodigfcfeaaW.PrintWords Go.Proofs.YteomnodigfcfeaaW.PrintLast Go.Proofs.YteomnodigfcfeaaW.PrintMore
set_option linter.unusedVariables false
set_option linter.unusedSimpArgs false

theorem steady_j2 (k : Nat) (e i o n l : Int) (send : Bool) (hn : 0 ≤ n ∧ n ≤ 1099511627776) (hl : n ≤ l ∧ l ≤ 1099511627776) (he : ev e > 0) (hs : send = decide (ev e > 0 ∧ tm o + ev e ≤ tm n)) :
    interchangelaw12_BeatSteady.j2 (k + 1) n l true send false e i o (ev e) (tm i) (if ev e > 0 ∧ tm o + ev e ≤ tm n then tm n else tm o) = some true := by
  have hE := ev_range e
  have hI := tm_range i
  have hO := tm_range o
  have tn : tm n = n := tm_of hn
  have tl : tm l = l := tm_of (by omega)
  have ee : ev (ev e) = ev e := ev_of hE
  have ti : tm (tm i) = tm i := tm_of hI
  have to_ : tm (tm o) = tm o := tm_of hO
  have e1 : wrap64 (l - n) = l - n := w64 (by omega)
  have e2 : wrap64 (2 * ev e) = 2 * ev e := w64 (by omega)
  simp only [interchangelaw12_BeatSteady.j2]
  rw [if_neg (by simp), tick_ok, got_ok]
  simp only [Option.bind_some]
  rw [tick_ok]
  simp only [Option.bind_some, if_true, ee, tl, e1, e2, tn]
  have hmx := mx_cases (tm i) n
  have tmx : tm (mx (tm i) n) = mx (tm i) n := tm_of (by omega)
  rw [tmx]
  have hlast : ¬ i > n → (decide (ev e > 0 ∧ mx (tm i) n + 2 * ev e ≤ l) == decide (l - n ≥ 2 * ev e)) = true := by
    intro hi
    have := tm_cases i
    have hm : mx (tm i) n = n := by omega
    rw [hm, beq_iff_eq, decide_eq_decide]
    omega
  have hfin : (if i > n then some true else some (decide (ev e > 0 ∧ mx (tm i) n + 2 * ev e ≤ l) == decide (l - n ≥ 2 * ev e))) = some true := by
    by_cases c : i > n
    · rw [if_pos c]
    · rw [if_neg c, hlast c]
  cases hsd : send
  · rw [if_neg (by simp)]
    exact hfin
  · rw [hsd] at hs
    have hd := of_decide_eq_true hs.symm
    rw [tn] at hd
    rw [if_pos rfl, if_pos hd, tn, if_pos]
    · exact hfin
    · rw [beq_iff_eq, decide_eq_decide]
      omega

theorem BeatSteady (a0_0 : Int) (w0 : (Lit.int .i64 a0_0).wf = true) (a0_1 : Int) (w1 : (Lit.int .i64 a0_1).wf = true) (a0_2 : Int) (w2 : (Lit.int .i64 a0_2).wf = true) (a1 : Int) (w3 : (Lit.int .i64 a1).wf = true) (a2 : Int) (w4 : (Lit.int .i64 a2).wf = true) : ∃ k, interchangelaw12_BeatSteady.f k a0_0 a0_1 a0_2 a1 a2 = some true := by
  refine ⟨3, ?_⟩
  have hE := ev_range a0_0
  have hI := tm_range a0_1
  have hO := tm_range a0_2
  unfold interchangelaw12_BeatSteady.f
  rw [interchangelaw12_shown_true, tick_ok, when_ok]
  simp only [Option.bind_some]
  obtain ⟨send, hs⟩ : ∃ s, decide (ev a0_0 > 0 ∧ tm a0_2 + ev a0_0 ≤ tm a1) = s := ⟨_, rfl⟩
  obtain ⟨gone, hg⟩ : ∃ s, decide (ev a0_0 > 0 ∧ tm a0_1 + 2 * ev a0_0 ≤ tm a1) = s := ⟨_, rfl⟩
  rw [hs, hg]
  have skip : ∀ (wh : Int) (is : Bool) (o2 : Int), (is = false ∨ ¬ (0 ≤ a1) ∨ ¬ a1 ≤ 1099511627776) → interchangelaw12_BeatSteady.j0 3 a1 a2 true send gone wh is false a0_0 a0_1 a0_2 (ev a0_0) (tm a0_1) o2 = some true := by
    intro wh is o2 h
    simp only [interchangelaw12_BeatSteady.j0]
    rw [if_neg (by simp)]
    have fin : interchangelaw12_BeatSteady.j1 2 a1 a2 true send gone wh true a0_0 a0_1 a0_2 (ev a0_0) (tm a0_1) o2 = some true := by
      simp only [interchangelaw12_BeatSteady.j1]
      rw [if_pos trivial]
    by_cases c1 : a1 < 0
    · rw [if_pos c1]; exact fin
    rw [if_neg c1]
    by_cases c2 : a1 > 1099511627776
    · rw [if_pos c2]; exact fin
    rw [if_neg c2]
    have : is = false := by rcases h with h | h | h <;> first | exact h | omega
    subst this
    by_cases c3 : a2 < a1
    · rw [if_pos c3]; exact fin
    rw [if_neg c3]
    by_cases c4 : a2 > 1099511627776
    · rw [if_pos c4]; exact fin
    rw [if_neg c4]
    exact fin
  by_cases c1 : a1 ≥ 0
  · rw [if_pos c1]
    by_cases c2 : a1 ≤ 1099511627776
    · rw [if_pos c2]
      have tn : tm a1 = a1 := tm_of ⟨c1, c2⟩
      by_cases c3 : ev a0_0 = 0
      · have hs0 : send = false := by rw [← hs]; simp [c3]
        have hg0 : gone = false := by rw [← hg]; simp [c3]
        rw [if_pos c3]
        subst hs0 hg0
        rw [if_neg (by simp), if_neg (by simp)]
        have hd : decide ((0 : Int) > a1) = false := by simp; omega
        simp only [hd]
        exact skip _ _ _ (.inl rfl)
      · rw [if_neg c3]
        have hp : ev a0_0 > 0 := by omega
        obtain ⟨wh, hwh⟩ : ∃ x, mn (tm a0_2 + ev a0_0) (tm a0_1 + 2 * ev a0_0) = x := ⟨_, rfl⟩
        have hm := mn_cases (tm a0_2 + ev a0_0) (tm a0_1 + 2 * ev a0_0)
        rw [hwh] at hm ⊢
        have hsg : (send = true ∨ gone = true) ↔ wh ≤ a1 := by
          rw [← hs, ← hg, tn, decide_eq_true_iff, decide_eq_true_iff]
          omega
        have main : interchangelaw12_BeatSteady.j0 3 a1 a2 true send gone wh true false a0_0 a0_1 a0_2 (ev a0_0) (tm a0_1) (if ev a0_0 > 0 ∧ tm a0_2 + ev a0_0 ≤ tm a1 then tm a1 else tm a0_2) = some true := by
          have fin : ∀ o2, interchangelaw12_BeatSteady.j1 2 a1 a2 true send gone wh true a0_0 a0_1 a0_2 (ev a0_0) (tm a0_1) o2 = some true := by
            intro o2
            simp only [interchangelaw12_BeatSteady.j1]
            rw [if_pos trivial]
          simp only [interchangelaw12_BeatSteady.j0]
          rw [if_neg (by simp), if_neg (by omega), if_neg (by omega)]
          by_cases d1 : a2 < a1
          · rw [if_pos d1]; exact fin _
          rw [if_neg d1]
          by_cases d2 : a2 > 1099511627776
          · rw [if_pos d2]; exact fin _
          rw [if_neg d2]
          simp only [interchangelaw12_BeatSteady.j1]
          rw [if_neg (by simp)]
          have hj := steady_j2 0 a0_0 a0_1 a0_2 a1 a2 send ⟨c1, c2⟩ ⟨by omega, by omega⟩ hp hs.symm
          cases hsd : send
          · rw [if_neg (by simp)]
            rw [hsd] at hj hsg
            have hgd : (gone != decide (wh ≤ a1)) = false := by
              cases hgg : gone
              · rw [hgg] at hsg
                simp at hsg
                simp
                omega
              · rw [hgg] at hsg
                have := hsg.1 (.inr rfl)
                simp [this]
            rw [hgd]
            exact hj
          · rw [if_pos rfl]
            rw [hsd] at hj hsg
            have := hsg.1 (.inl rfl)
            have hgd : (true != decide (wh ≤ a1)) = false := by simp [this]
            rw [hgd]
            exact hj
        have hne : (true != true) = false := rfl
        cases hsd : send
        · rw [hsd] at main hsg
          rw [if_neg (by simp)]
          cases hgg : gone
          · rw [hgg] at main hsg
            rw [if_neg (by simp)]
            have hwa : decide (wh > a1) = true := by
              simp at hsg
              simp
              omega
            simp only [hwa, hne]
            exact main
          · rw [hgg] at main
            rw [if_pos rfl]
            simp only [hne]
            exact main
        · rw [hsd] at main
          rw [if_pos rfl]
          simp only [hne]
          exact main
    · rw [if_neg c2]
      exact skip _ _ _ (.inr (.inr c2))
  · rw [if_neg c1]
    exact skip _ _ _ (.inr (.inl c1))
end Go.Proofs.Yteomnodigfcfeaa.Pure
