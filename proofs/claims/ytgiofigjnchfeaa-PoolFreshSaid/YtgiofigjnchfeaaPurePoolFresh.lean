/- PoolFresh's plain law: what is leased had no slot ahead of it; all others stay. -/
import Derived.Test.YtgiofigjnchfeaaLF
namespace Go.Proofs.Ytgiofigjnchfeaa.Pure
open Go.RowKit Go.Proofs.Ytgiofigjnchfeaa.Q Go.Proofs.YtgiofigjnchfeaaW.PrintWords Go.Proofs.YtgiofigjnchfeaaW.PrintLast Go.Proofs.YtgiofigjnchfeaaW.PrintMore
set_option linter.unusedVariables false

theorem PoolFresh {q0 q1 q2 : Prop} (M : List Int) (hM : M.length * 8 ≤ reachBytes) (hw0 : q0) (L : List S29) (hL : L.length * 32 ≤ reachBytes) (hw1 : q1) (who : Int) (hwho : q2) : ∃ k, interchangelaw13_PoolFresh.f k M L who = some true :=
  Fresh_core M L who (by unfold reachBytes at hL; omega)
end Go.Proofs.Ytgiofigjnchfeaa.Pure
