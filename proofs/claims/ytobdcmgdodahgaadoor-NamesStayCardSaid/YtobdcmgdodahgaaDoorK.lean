/- What the rows' list of package-level tables gives: the two tables that the walks read. -/
import Derived.Test.YtobdcmgdodahgaaDoorCards
import Derived.Test.YtobdcmgdodahgaaDoorTie
import Derived.Test.YtobdcmgdodahgaaDoorH28
import Derived.Lib.LaidTab
import Derived.Stop.LaidErr
import Derived.LaidMore
import Derived.MakeChecks
namespace Go.Proofs.YtobdcmgdodahgaaDoor.Q
open Go.RowKit
theorem own : ownKnob Tryd.prog.godebug = none := by kernel_rfl
theorem gPow : Tryd.prog.globalNamed "internal/strconv.uint64pow10" = some 0 := by kernel_rfl
theorem gWid : Tryd.prog.globalNamed "interchange/num.widths" = some 1 := by kernel_rfl
theorem tPow : (Tryd.prog.globals[0]?).map (·.type) = some 73 := by kernel_rfl
theorem tWid : (Tryd.prog.globals[1]?).map (·.type) = some 82 := by kernel_rfl
theorem c73 : Tryd.prog.cellsOf 73 = 20 := by kernel_rfl
theorem c82 : Tryd.prog.cellsOf 82 = 4 := by kernel_rfl
theorem c22 : Tryd.prog.cellsOf 22 = 1 := by kernel_rfl
theorem c3 : Tryd.prog.cellsOf 3 = 1 := by kernel_rfl
/-- The list that all rows of this seat bear. -/
def laids : List (String × DataW Unit) := [("math/bits.deBruijn32tab", Rows.laid_math_bits_deBruijn32tab), ("math/bits.deBruijn64tab", Rows.laid_math_bits_deBruijn64tab), ("internal/strconv.uint64pow10", Rows.laid_internal_strconv_uint64pow10), ("interchange/num.widths", Rows.laid_interchange_num_widths)]
theorem tabs_of_laid {W : World} (h : laidMetH Tryd.prog laids W) : Tabs W := by
  rw [MakeChecks.laidMetH_plain _ _ _ (by kernel_rfl)] at h
  have h2 : laidMet Tryd.prog [("internal/strconv.uint64pow10", Lib.tabData .u64 Lib.pow10Tab), ("interchange/num.widths", Lib.tabData .i64 [1, 2, 4, 8])] W := h.tail.tail
  exact ⟨Lib.tabIs_of_head gPow tPow Tryd.underlying73 Tryd.underlying22 c22 c73 h2, Lib.tabIs_of_head gWid tWid Tryd.underlying82 Tryd.underlying3 c3 c82 h2.tail⟩
/-- The door's own heap meets the list. -/
theorem door_met (os : Os) (args : Array Value) : laidMetH Tryd.prog laids ((World.doorLaid Tryd.prog 29 os).forCall (fun _ _ => 0) ⟨#[], args, []⟩).memory :=
  laidMetH_of_parts3 (fuel := 8) (laidMet_of_run' 8 (by kernel_rfl) (by kernel_rfl)) (by kernel_rfl) (by kernel_rfl)
theorem door_shaped (os : Os) (args : Array Value) : ((World.doorLaid Tryd.prog 29 os).forCall (fun _ _ => 0) ⟨#[], args, []⟩).Shaped Tryd.prog := World.shaped_of_RefB (by kernel_rfl) (by kernel_rfl)
end Go.Proofs.YtobdcmgdodahgaaDoor.Q
