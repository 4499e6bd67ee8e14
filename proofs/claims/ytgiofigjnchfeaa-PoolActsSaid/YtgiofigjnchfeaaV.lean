/- What only grows: a world that came of another one by allocs and draws. -/
import Derived.Test.YtgiofigjnchfeaaQ0
namespace Go.Proofs.Ytgiofigjnchfeaa.Q
open Go.RowKit Go.Proofs.YtgiofigjnchfeaaW.PrintWords Go.Proofs.YtgiofigjnchfeaaW.PrintLast Go.Proofs.YtgiofigjnchfeaaW.PrintMore
set_option linter.unusedVariables false
set_option linter.unusedSimpArgs false
instance (W : World) : Nonempty (Below W.heap.size W W) := ⟨Below.refl _ _⟩
instance (W W' : World) (o : Obj) [h : Nonempty (Below W.heap.size W W')] : Nonempty (Below W.heap.size W (W'.alloc o)) := h.elim fun h => ⟨below_alloc h o⟩
instance (W W' : World) (n : Nat) [h : Nonempty (Below W.heap.size W W')] : Nonempty (Below W.heap.size W (W'.drewN n)) := h.elim fun h => ⟨pw_below_drewN h n⟩
instance (W W' : World) [h : Nonempty (Below W.heap.size W W')] : Nonempty (Below W.heap.size W W'.drew) := h.elim fun h => ⟨below_drew1 h⟩
theorem upb (W W' : World) [h : Nonempty (Below W.heap.size W W')] : Below W.heap.size W W' := h.elim id
theorem bk {W W' : World} {g : Nat} {o : Obj} (h : W.heap[g]? = some o) [u : Nonempty (Below W.heap.size W W')] : W'.heap[g]? = some o := ((upb W W').block g (blk_lt h)).trans h
theorem vk {α : Type} {d : Kd α} {e base : Nat} {ok : Nat → Prop} {W W' : World} {v : Value} {xs : List α} (h : Kd.V d e W base ok v xs) [u : Nonempty (Below W.heap.size W W')] : Kd.V d e W' base ok v xs := Kd.V_below h (upb W W')
theorem rk {α : Type} {d : Kd α} {e base : Nat} {ok : Nat → Prop} {W W' : World} {v : Value} {xs : List α} (h : Kd.R d e W base ok v xs) [u : Nonempty (Below W.heap.size W W')] : Kd.R d e W' base ok v xs := Kd.R_below h (upb W W')
theorem ck {α : Type} {d : Kd α} {W W' : World} {A : Option Addr} {n : Nat} {xs : List α} (h : Kd.C d W A n xs) [u : Nonempty (Below W.heap.size W W')] : Kd.C d W' A n xs := Kd.C_below h (upb W W')
theorem bl {w W W' : World} (h : Below w.heap.size w W) [u : Nonempty (Below W.heap.size W W')] : Below w.heap.size w W' := below_step h (upb W W')
theorem bA {w W : World} (h : Below w.heap.size w W) (o : Obj) : Below w.heap.size w (W.alloc o) := below_alloc h o
theorem bN {base : Nat} {w W : World} (h : Below base w W) (n : Nat) : Below base w (W.drewN n) := pw_below_drewN h n
theorem bD {base : Nat} {w W : World} (h : Below base w W) : Below base w W.drew := below_drew1 h
theorem bS {w W : World} {g j : Nat} {v : Value} (h : Below w.heap.size w W) (hg : Aside0 (w.heap.size ≤ g)) : Below w.heap.size w (W.setCell ⟨g, j, none⟩ v) := below_set h hg.out
end Go.Proofs.Ytgiofigjnchfeaa.Q
