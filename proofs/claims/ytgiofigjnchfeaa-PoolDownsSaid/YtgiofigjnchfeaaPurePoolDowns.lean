/- PoolDowns's plain law: a connection that goes down has no slots any more. -/
import Derived.Test.YtgiofigjnchfeaaL17
namespace Go.Proofs.Ytgiofigjnchfeaa.Pure
open Go.RowKit Go.Proofs.Ytgiofigjnchfeaa.Q Go.Proofs.YtgiofigjnchfeaaW.PrintWords Go.Proofs.YtgiofigjnchfeaaW.PrintLast Go.Proofs.YtgiofigjnchfeaaW.PrintMore
set_option linter.unusedVariables false

theorem PoolDowns {q0 q1 q2 q3 : Prop} (M : List Int) (hM : M.length * 8 ≤ reachBytes) (hw0 : q0) (L : List S29) (hL : L.length * 32 ≤ reachBytes) (hw1 : q1) (c : Int) (hc : q2) (who : Int) (hwho : q3) : ∃ k, interchangelaw13_PoolDowns.f k M L c who = some true :=
  Downs_core M L c who (by unfold reachBytes at hL; omega)
end Go.Proofs.Ytgiofigjnchfeaa.Pure
