/- PoolActs's plain law: what comes up and goes down, is leased and found, is as the document says. -/
import Derived.Test.YtgiofigjnchfeaaL21
namespace Go.Proofs.Ytgiofigjnchfeaa.Pure
open Go.RowKit Go.Proofs.Ytgiofigjnchfeaa.Q Go.Proofs.YtgiofigjnchfeaaW.PrintWords Go.Proofs.YtgiofigjnchfeaaW.PrintLast Go.Proofs.YtgiofigjnchfeaaW.PrintMore
set_option linter.unusedVariables false

theorem PoolActs {q0 q2 q3 q4 q5 : Prop} (M : List Int) (hM : M.length * 8 ≤ reachBytes) (hw0 : q0) (L : List S29) (hL : L.length * 32 ≤ reachBytes) (hw1 : ∀ a ∈ L, (Lit.int .i64 a.f0).wf = true ∧ (Lit.int .i64 a.f1).wf = true ∧ (Lit.int .i64 a.f2).wf = true ∧ (Lit.int .i64 a.f3).wf = true) (c : Int) (hc : q2) (ch : Int) (hch : q3) (who : Int) (hwho : q4) (n : Int) (hn : q5) : ∃ k, interchangelaw13_PoolActs.f k M L c ch who n = some true :=
  Acts_core M L c ch who n (by unfold reachBytes at hL; omega) (fun s hs => (hw1 s hs).2.2.2)
end Go.Proofs.Ytgiofigjnchfeaa.Pure
