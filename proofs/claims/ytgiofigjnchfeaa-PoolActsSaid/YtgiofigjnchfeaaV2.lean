/- What only grows, told in one word. -/
import Derived.Test.YtgiofigjnchfeaaV
namespace Go.Proofs.Ytgiofigjnchfeaa.Q
open Go.RowKit Go.Proofs.YtgiofigjnchfeaaW.PrintWords Go.Proofs.YtgiofigjnchfeaaW.PrintLast Go.Proofs.YtgiofigjnchfeaaW.PrintMore
set_option linter.unusedVariables false
set_option linter.unusedSimpArgs false
section
variable {w W W' W'' : World} {g g' : Nat} {o : Obj} {α : Type} {d : Kd α} {e base : Nat} {ok : Nat → Prop} {v : Value} {xs : List α}
theorem bb (h : Aside0 (W.heap[g]? = some o)) [u : Nonempty (Below W.heap.size W W')] (hb : Below W'.heap.size W' W'') : Aside0 (W''.heap[g]? = some o) := ⟨blk_below (bk h.out) hb⟩
theorem vv (h : Aside0 (Kd.V d e W base ok v xs)) [u : Nonempty (Below W.heap.size W W')] (hb : Below W'.heap.size W' W'') : Aside0 (Kd.V d e W'' base ok v xs) := ⟨Kd.V_below (vk h.out) hb⟩
theorem ve (h : Aside0 (Kd.V d e W base ok v xs)) [u : Nonempty (Below W.heap.size W W')] (hg : g = W'.heap.size) (hb : Below W'.heap.size W' W'') : Aside0 (Kd.V d e W'' base (fun k => ok k ∧ k ≠ g) v xs) := ⟨Kd.V_below (Kd.V_elderB (vk h.out) g (Nat.le_of_eq hg.symm)) hb⟩
theorem nl (h : Aside0 (W.heap[g]? = some o)) [u : Nonempty (Below W.heap.size W W')] (hg : g' = W'.heap.size) : Aside0 (g ≠ g') := ⟨by rw [hg]; exact Nat.ne_of_lt (blk_lt (bk h.out))⟩
theorem ng (h : Aside0 (W.heap[g]? = some o)) [u : Nonempty (Below W.heap.size W W')] (hg : g' = W'.heap.size) : Aside0 (g' ≠ g) := ⟨by rw [hg]; exact Nat.ne_of_gt (blk_lt (bk h.out))⟩
theorem hs (h : Aside0 (Below w.heap.size w W)) [u : Nonempty (Below W.heap.size W W')] (hb : Below W'.heap.size W' W'') : Aside0 (Below w.heap.size w W'') := ⟨below_step (bl h.out) hb⟩
end
end Go.Proofs.Ytgiofigjnchfeaa.Q
