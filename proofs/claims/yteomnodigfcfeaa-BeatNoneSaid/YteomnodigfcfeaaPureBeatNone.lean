/- BeatNone's plain law: without beats nothing is sent, nobody is gone, whatever time it is. -/
import Derived.Test.YteomnodigfcfeaaQ9
import Derived.Test.YteomnodigfcfeaaL21
namespace Go.Proofs.Yteomnodigfcfeaa.Pure
open Go.RowKit Go.Proofs.Yteomnodigfcfeaa.Q Go.Proofs.YteomnodigfcfeaaW.PrintWords Go.Proofs.YteomnodigfcfeaaW.PrintLast Go.Proofs.YteomnodigfcfeaaW.PrintMore
set_option linter.unusedVariables false
set_option linter.unusedSimpArgs false

theorem BeatNone : interchangelaw12_BeatNone.Pure := by
  intro a0 a1 a2 w0 w1 w2
  unfold interchangelaw12_BeatNone.f
  have e0 : ev 0 = 0 := ev_of (by omega)
  rw [interchangelaw12_shown_true, tick_ok, when_ok, e0]
  simp only [Option.bind_some]
  rw [if_neg (by simp), if_neg (by simp), if_neg (by simp), if_pos trivial]
  have hn : ¬ ((0 : Int) > 0 ∧ tm a1 + 0 ≤ tm a2) := fun h => absurd h.1 (by decide)
  rw [if_neg hn, got_ok, sent_ok]
  simp only [Option.bind_some]
  have h0 := tm_range a0
  have h1 := tm_range a1
  rw [tm_of h0, tm_of h1]
  have m0 := mx_cases (tm a0) (tm a2)
  have m1 := mx_cases (tm a1) (tm a2)
  rw [if_pos (by omega)]
  have : mx (tm a1) (tm a2) ≥ tm a1 := by omega
  simp [this]
end Go.Proofs.Yteomnodigfcfeaa.Pure
