/- The document's example answers true. -/
import Derived.Test.YteomnodigfcfeaaQ10
namespace Go.Proofs.Yteomnodigfcfeaa.Q
open Go.RowKit Go.Proofs.YteomnodigfcfeaaW.PrintWords Go.Proofs.YteomnodigfcfeaaW.PrintLast Go.Proofs.YteomnodigfcfeaaW.PrintMore
theorem interchangelaw12_shown_true : interchangelaw12_shown.f = some true := by kernel_rfl
end Go.Proofs.Yteomnodigfcfeaa.Q
