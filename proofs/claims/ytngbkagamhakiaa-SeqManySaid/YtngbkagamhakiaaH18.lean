/- seq.Confirm's two predicates, and seq.those. -/
import Derived.Test.YtngbkagamhakiaaH26
namespace Go.Proofs.Ytngbkagamhakiaa.Q
open Go.RowKit Go.Proofs.YtngbkagamhakiaaW.PrintWords Go.Proofs.YtngbkagamhakiaaW.PrintLast Go.Proofs.YtngbkagamhakiaaW.PrintMore
set_option linter.unusedVariables false
set_option linter.unusedSimpArgs false

/-- Which numbers are confirmed. -/
def isIn (all many : Bool) (top n : Int) : Bool := all || n == top || many && decide (n < top)

set_option maxHeartbeats 8000000 in
set_option maxRecDepth 100000 in
theorem seq_Confirm1.calls (x : Int) (all many : Bool) (top : Int) (Ba Bt Bm : Nat) (W : World) (ha : W.heap[Ba]? = some (.cells #[.bool all] 4 (0, 0))) (ht : W.heap[Bt]? = some (.cells #[.int .u64 top] 22 (0, 0))) (hm : W.heap[Bm]? = some (.cells #[.bool many] 4 (0, 0))) :
    Calls Try.prog 18 (#[.int .u64 x] ++ #[.pointer (some ⟨Ba, 0, none⟩), .pointer (some ⟨Bt, 0, none⟩), .pointer (some ⟨Bm, 0, none⟩)]) W fun e w' => e = .returned (.bool (isIn all many top x)) ∧ Drawn0 W w' := by
  have hca : W.cell? ⟨Ba, 0, none⟩ = some (.bool all) := (blk_cell ha 0).trans rfl
  have hct : W.cell? ⟨Bt, 0, none⟩ = some (.int .u64 top) := (blk_cell ht 0).trans rfl
  have hcm : W.cell? ⟨Bm, 0, none⟩ = some (.bool many) := (blk_cell hm 0).trans rfl
  show Calls Try.prog 18 #[.int .u64 x, .pointer (some ⟨Ba, 0, none⟩), .pointer (some ⟨Bt, 0, none⟩), .pointer (some ⟨Bm, 0, none⟩)] W _
  clear ha ht hm
  cases all
  · by_cases h1 : x = top
    · have h1b : (x == top) = true := beq_iff_eq.2 h1
      go_enter Try.func18, Try.ntmps18
      go_wp2
      go_ret
      exact ⟨by simp [isIn, h1b], Drawn0.refl _⟩
    · have h1b : (x == top) = false := beq_eq_false_iff_ne.2 h1
      cases many
      · go_enter Try.func18, Try.ntmps18
        go_wp2
        go_ret
        exact ⟨by simp [isIn, h1b], Drawn0.refl _⟩
      · go_enter Try.func18, Try.ntmps18
        go_wp2
        go_ret
        exact ⟨by simp [isIn, h1b], Drawn0.refl _⟩
  · go_enter Try.func18, Try.ntmps18
    go_wp2
    go_ret
    exact ⟨by simp [isIn], Drawn0.refl _⟩

set_option maxHeartbeats 8000000 in
set_option maxRecDepth 100000 in
theorem seq_Confirm2.calls (x : Int) (p : Int → Bool) (g : Nat) (lb : Array Value) (eg : ∀ args w, (callFunc g args).run Try.prog w = .ok (.enter g args) w) (Bf : Nat) (W : World) (hf : W.heap[Bf]? = some (.cells #[.func (.func g) #[] lb] 50 (0, 0)))
    (hp : Calls Try.prog g (#[.int .u64 x] ++ lb) W fun e w' => e = .returned (.bool (p x)) ∧ Drawn0 W w') :
    Calls Try.prog 20 (#[.int .u64 x] ++ #[.pointer (some ⟨Bf, 0, none⟩)]) W fun e w' => e = .returned (.bool (!p x)) ∧ Drawn0 W w' := by
  have hcf : W.cell? ⟨Bf, 0, none⟩ = some (.func (.func g) #[] lb) := (blk_cell hf 0).trans rfl
  show Calls Try.prog 20 #[.int .u64 x, .pointer (some ⟨Bf, 0, none⟩)] W _
  have HP := Aside0.mk hp
  clear hf hp
  go_enter Try.func20, Try.ntmps20
  go_wp2_with fail
  refine HP.out.mono ?_
  rintro e w' ⟨rfl, ⟨nd, rfl⟩⟩
  go_wp2
  go_ret
  exact ⟨rfl, ⟨⟨_, rfl⟩⟩⟩

set_option maxHeartbeats 8000000 in
set_option maxRecDepth 100000 in
theorem seq_those.calls (v : Value) (fv : Value) (hv : v.cells = #[v]) (hfv : fv.cells = #[fv]) (A : Option Addr) (n c : Nat) (hve : v = .slice A n c) (g : Nat) (lb : Array Value) (hfe : fv = .func (.func g) #[] lb) (w : World) :
    Calls Try.prog 19 #[v, fv] w fun e w' => e = .returned (.func (.func 26) #[] #[.pointer (some ⟨w.heap.size, 0, none⟩), .pointer (some ⟨w.heap.size + 1, 0, none⟩)]) ∧ w' = (w.alloc (.cells #[v] 24)).alloc (.cells #[fv] 50) := by
  subst hve
  subst hfe
  go_enter Try.func19, Try.ntmps19
  go_wp2
  go_ret
  exact ⟨rfl, rfl⟩
end Go.Proofs.Ytngbkagamhakiaa.Q
