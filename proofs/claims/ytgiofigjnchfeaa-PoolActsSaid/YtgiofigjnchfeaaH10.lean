/- The document's example answers true. -/
import Derived.Test.YtgiofigjnchfeaaQ10
namespace Go.Proofs.Ytgiofigjnchfeaa.Q
open Go.RowKit Go.Proofs.YtgiofigjnchfeaaW.PrintWords Go.Proofs.YtgiofigjnchfeaaW.PrintLast Go.Proofs.YtgiofigjnchfeaaW.PrintMore
theorem interchangelaw13_shown_succ (k : Nat) : interchangelaw13_shown.f (k + 1) = some true := by kernel_rfl
theorem interchangelaw13_shown_true {k : Nat} {t : Bool} (h : interchangelaw13_shown.f k = some t) : true = t := by
  cases k with
  | zero =>
    have : interchangelaw13_shown.f 0 = none := by kernel_rfl
    rw [this] at h
    cases h
  | succ k => exact Option.some.inj ((interchangelaw13_shown_succ k).symm.trans h)
end Go.Proofs.Ytgiofigjnchfeaa.Q
