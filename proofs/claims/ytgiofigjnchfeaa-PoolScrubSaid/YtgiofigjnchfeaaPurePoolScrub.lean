/- PoolScrub's plain law: a slot that was given back is not leased till it is clean. -/
import Derived.Test.YtgiofigjnchfeaaLS
namespace Go.Proofs.Ytgiofigjnchfeaa.Pure
open Go.RowKit Go.Proofs.Ytgiofigjnchfeaa.Q Go.Proofs.YtgiofigjnchfeaaW.PrintWords Go.Proofs.YtgiofigjnchfeaaW.PrintLast Go.Proofs.YtgiofigjnchfeaaW.PrintMore
set_option linter.unusedVariables false

theorem PoolScrub {q0 q1 q2 q3 q4 : Prop} (M : List Int) (hM : M.length * 8 ≤ reachBytes) (hw0 : q0) (L : List S29) (hL : L.length * 32 ≤ reachBytes) (hw1 : q1) (c : Int) (hc : q2) (ch : Int) (hch : q3) (who : Int) (hwho : q4) : ∃ k, interchangelaw13_PoolScrub.f k M L c ch who = some true :=
  Scrub_core M L c ch who (by unfold reachBytes at hL; omega)
end Go.Proofs.Ytgiofigjnchfeaa.Pure
