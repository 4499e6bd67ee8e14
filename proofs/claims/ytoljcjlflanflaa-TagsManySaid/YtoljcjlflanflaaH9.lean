/- The document's example answers true. -/
import Derived.Test.YtoljcjlflanflaaQ9
namespace Go.Proofs.Ytoljcjlflanflaa.Q
open Go.RowKit Go.Proofs.YtoljcjlflanflaaW.PrintWords Go.Proofs.YtoljcjlflanflaaW.PrintLast Go.Proofs.YtoljcjlflanflaaW.PrintMore
theorem interchangelaw15_shown_true : interchangelaw15_shown.f = some true := by kernel_rfl
end Go.Proofs.Ytoljcjlflanflaa.Q
