/- The document's example answers true. -/
import Derived.Test.YtngbkagamhakiaaQ9
namespace Go.Proofs.Ytngbkagamhakiaa.Q
open Go.RowKit Go.Proofs.YtngbkagamhakiaaW.PrintWords Go.Proofs.YtngbkagamhakiaaW.PrintLast Go.Proofs.YtngbkagamhakiaaW.PrintMore
theorem interchangelaw16_shown_true : interchangelaw16_shown.f = some true := by kernel_rfl
end Go.Proofs.Ytngbkagamhakiaa.Q
