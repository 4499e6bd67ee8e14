/- PoolSlots's plain law: a slot that is opened, released, cleaned or found is as the document says. -/
import Derived.Test.YtgiofigjnchfeaaL18
namespace Go.Proofs.Ytgiofigjnchfeaa.Pure
open Go.RowKit Go.Proofs.Ytgiofigjnchfeaa.Q Go.Proofs.YtgiofigjnchfeaaW.PrintWords Go.Proofs.YtgiofigjnchfeaaW.PrintLast Go.Proofs.YtgiofigjnchfeaaW.PrintMore
set_option linter.unusedVariables false

theorem PoolSlots {q0 q1 q2 q3 q4 : Prop} (M : List Int) (hM : M.length * 8 ≤ reachBytes) (hw0 : q0) (L : List S29) (hL : L.length * 32 ≤ reachBytes) (hw1 : q1) (c : Int) (hc : q2) (ch : Int) (hch : q3) (who : Int) (hwho : q4) : ∃ k, interchangelaw13_PoolSlots.f k M L c ch who = some true :=
  Slots_core M L c ch who (by unfold reachBytes at hL; omega)
end Go.Proofs.Ytgiofigjnchfeaa.Pure
