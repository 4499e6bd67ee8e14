/- The document's example answers true. -/
import Derived.Test.YtobdcmgdodahgaaDoorQ9
namespace Go.Proofs.YtobdcmgdodahgaaDoor.Q
open Go.RowKit Go.Proofs.YtobdcmgdodahgaaDoorW.PrintWords Go.Proofs.YtobdcmgdodahgaaDoorW.PrintLast Go.Proofs.YtobdcmgdodahgaaDoorW.PrintMore
theorem interchangelaw17_shown_true : interchangelaw17_shown.f = some true := by kernel_rfl
end Go.Proofs.YtobdcmgdodahgaaDoor.Q
