/- What stays where one box is stored to, told in one word. -/
import Derived.Test.YtgiofigjnchfeaaV2
namespace Go.Proofs.Ytgiofigjnchfeaa.Q
open Go.RowKit Go.Proofs.YtgiofigjnchfeaaW.PrintWords Go.Proofs.YtgiofigjnchfeaaW.PrintLast Go.Proofs.YtgiofigjnchfeaaW.PrintMore
set_option linter.unusedVariables false
set_option linter.unusedSimpArgs false
/-- W' came of W by allocs, draws and stores to the block g. -/
structure FB (g : Nat) (W W' : World) : Prop where
  blk : ∀ (x : Nat) (cs : Array Value) (t : TypeId), W.heap[x]? = some (.cells cs t (0, 0)) → x ≠ g → W'.heap[x]? = some (.cells cs t (0, 0))
  vee : ∀ {α : Type} (d : Kd α) (e base : Nat) (ok : Nat → Prop) (v : Value) (xs : List α), Kd.V d e W base ok v xs → (∀ k, ok k → k ≠ g) → Kd.V d e W' base ok v xs
instance (g : Nat) (W : World) : Nonempty (FB g W W) := ⟨⟨fun _ _ _ h _ => h, fun _ _ _ _ _ _ h _ => h⟩⟩
instance (g : Nat) (W W' : World) (o : Obj) [h : Nonempty (FB g W W')] : Nonempty (FB g W (W'.alloc o)) := h.elim fun h => ⟨⟨fun x cs t h1 h2 => blk_alloc (h.blk x cs t h1 h2) _, fun d e b ok v xs h1 h2 => Kd.V_alloc (h.vee d e b ok v xs h1 h2) _⟩⟩
instance (g : Nat) (W W' : World) (n : Nat) [h : Nonempty (FB g W W')] : Nonempty (FB g W (W'.drewN n)) := h.elim fun h => ⟨⟨fun x cs t h1 h2 => blk_drewN (h.blk x cs t h1 h2) _, fun d e b ok v xs h1 h2 => Kd.V_drewN (h.vee d e b ok v xs h1 h2) _⟩⟩
instance (g : Nat) (W W' : World) [h : Nonempty (FB g W W')] : Nonempty (FB g W W'.drew) := h.elim fun h => ⟨⟨fun x cs t h1 h2 => blk_drew (h.blk x cs t h1 h2), fun d e b ok v xs h1 h2 => Kd.V_drew (h.vee d e b ok v xs h1 h2)⟩⟩
instance (g j : Nat) (u : Value) (W W' : World) [h : Nonempty (FB g W W')] : Nonempty (FB g W (W'.setCell ⟨g, j, none⟩ u)) := h.elim fun h => ⟨⟨fun x cs t h1 h2 => blk_far (p := ⟨g, j, none⟩) (h.blk x cs t h1 h2) h2 _, fun d e b ok v xs h1 h2 => Kd.V_far (p := ⟨g, j, none⟩) (h.vee d e b ok v xs h1 h2) h2 _⟩⟩
section
variable {w w' W W' W'' : World} {g x : Nat} {cs : Array Value} {t : TypeId} {α : Type} {d : Kd α} {e base : Nat} {ok : Nat → Prop} {v : Value} {xs : List α}
theorem vx (h : Aside0 (Kd.V d e W base ok v xs)) (hne : ∀ k, ok k → k ≠ g) [u : Nonempty (FB g W W')] (hb : Below W'.heap.size W' W'') : Aside0 (Kd.V d e W'' base ok v xs) := ⟨Kd.V_below (u.elim fun u => u.vee d e base ok v xs h.out hne) hb⟩
theorem bx (h : Aside0 (W.heap[x]? = some (.cells cs t (0, 0)))) (hne : Aside0 (x ≠ g)) [u : Nonempty (FB g W W')] (hb : Below W'.heap.size W' W'') : Aside0 (W''.heap[x]? = some (.cells cs t (0, 0))) := ⟨blk_below (u.elim fun u => u.blk x cs t h.out hne.out) hb⟩
theorem vw (h : Aside0 (Kd.V d e W base (fun k => ok k ∧ k ≠ g) v xs)) (hw : w' = W') [u : Nonempty (FB g W W')] : Aside0 (Kd.V d e w' base (fun k => ok k ∧ k ≠ g) v xs) := ⟨hw ▸ (u.elim fun u => u.vee d e base _ v xs h.out fun k hk => hk.2)⟩
theorem bw (h : Aside0 (W.heap[x]? = some (.cells cs t (0, 0)))) (hne : Aside0 (x ≠ g)) (hw : w' = W') [u : Nonempty (FB g W W')] : Aside0 (w'.heap[x]? = some (.cells cs t (0, 0))) := ⟨hw ▸ (u.elim fun u => u.blk x cs t h.out hne.out)⟩
end
end Go.Proofs.Ytgiofigjnchfeaa.Q
