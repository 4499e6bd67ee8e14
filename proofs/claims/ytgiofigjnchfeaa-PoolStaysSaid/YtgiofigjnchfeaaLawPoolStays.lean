/- The row of the law PoolStays: what came in is read, and the law's call answers true. -/
import Derived.Test.YtgiofigjnchfeaaRows
import Derived.Test.YtgiofigjnchfeaaH9
import Derived.Test.YtgiofigjnchfeaaR
import Derived.WalkKit
import Derived.ProofKit
import Derived.OpenShut
import Derived.ShutString
import Derived.ChangeOld
import Derived.Below
import Derived.SizedLaws
namespace Go.Proofs.Ytgiofigjnchfeaa.poolStays
open Go.ChangeShapes Go.WideShapes Go.ChangeAt Go.RowKit Go.Proofs.Ytgiofigjnchfeaa.Q Go.Proofs.YtgiofigjnchfeaaW.PrintWords Go.Proofs.YtgiofigjnchfeaaW.PrintLast Go.Proofs.YtgiofigjnchfeaaW.PrintMore
set_option linter.unusedVariables false
theorem own : ownKnob Try.prog.godebug = none := by kernel_rfl
theorem laidOut : laidOutB Try.prog = true := by kernel_rfl
theorem c59 : Try.prog.cellsOf 59 = 4 := by kernel_rfl
theorem c3 : Try.prog.cellsOf 3 = 1 := by kernel_rfl
/-- Four numbers in a row read as a slot's four. -/
theorem rdg59 (W : World) : Rdg Try.prog W 59 k29 (fun _ => True) := by
  intro H enc fuel cs x h hw
  obtain ⟨xs, m, rfl, rfl, hl, hn, hel⟩ := DataW.trod_array Try.underlying59 h
  rw [c59] at hl
  simp only [c3, Nat.mul_one] at hel
  match cs, hl, xs, hn with
  | [a, b, c, d], _, [y0, y1, y2, y3], _ =>
    obtain ⟨k0, e0, _⟩ := DataW.trod_int Try.underlying3 (show DataW.trod enc Try.prog W 0 (fun _ => true) true m 3 [a] = some y0 from hel 0 (by decide))
    obtain ⟨k1, e1, _⟩ := DataW.trod_int Try.underlying3 (show DataW.trod enc Try.prog W 0 (fun _ => true) true m 3 [b] = some y1 from hel 1 (by decide))
    obtain ⟨k2, e2, _⟩ := DataW.trod_int Try.underlying3 (show DataW.trod enc Try.prog W 0 (fun _ => true) true m 3 [c] = some y2 from hel 2 (by decide))
    obtain ⟨k3, e3, _⟩ := DataW.trod_int Try.underlying3 (show DataW.trod enc Try.prog W 0 (fun _ => true) true m 3 [d] = some y3 from hel 3 (by decide))
    simp only [List.cons.injEq, and_true] at e0 e1 e2 e3
    subst e0 e1 e2 e3
    exact ⟨⟨k0, k1, k2, k3⟩, k29_mk W _, trivial⟩
theorem rdg58 (W : World) : Rdg Try.prog W 58 (Kd.slice 59 k29) (fun l => l.length * 32 ≤ reachBytes ∧ ∀ a ∈ l, True) := Rdg.slice (B := 32) (rdg59 W) Try.underlying58 (by kernel_rfl) (by kernel_rfl)
set_option maxRecDepth 100000 in
theorem lifted (os : Os) (started : os.Started) (H : Type) (enc : TypeId × Value → H) :
    ReturnsInHanded {} Try.checked os 9 .any (Rows.poolStaysSpec.pre6 enc Try.prog Try.f9 Rows.poolStaysRow.domain false) (Rows.poolStaysSpec.post enc Try.prog Try.f9 false true false false) := by
  refine returnsInHanded_of_change_sized (C := Try.checked) own started (by kernel_rfl) Try.func9
    (ChangeSpec.witness6 (enc := enc) (C := Try.checked) false ⟨#[], #[.int .i64 0, .slice none 0 0], []⟩ 8 (by kernel_rfl) (by kernel_rfl) (by kernel_rfl) (by kernel_rfl)) ?_
  intro W base args ds gs before hval0 hW hcnd hsz0 _
  have hsz : (DataW.weightsEach Try.prog (Try.f9.params.toList ++ Rows.poolStaysSpec.plain.varTypes Try.prog) (ds ++ gs)).all (· ≤ reachBytes) = true := hsz0
  have hval : ∀ (j : Nat) t v, Try.f9.params[j]? = some t → args[j]? = some v → Value.okWide Try.prog W .any base t v := hval0
  have hW' := hW
  obtain ⟨p, q, hA0, hV, rfl, hfz, hnd⟩ := hW
  have hA : DataW.TrodAll enc Try.prog W 0 (fun _ => true) true Try.f9.params.toList args.toList ds p := hA0
  rw [Try.params9] at hA hval hsz
  obtain ⟨v0, vs0, d0, ds0, p0, q0, hargs, rfl, rfl, h0, r0⟩ := trodAll_cons hA
  obtain ⟨v1, vs1, d1, ds1, p1, q1, rfl, rfl, rfl, h1, r1⟩ := trodAll_cons r0
  obtain ⟨rfl, rfl, rfl⟩ := trodAll_nil r1
  obtain rfl : args = #[v0, v1] := by cases args; simp_all
  obtain ⟨rfl, rfl⟩ := trodVars_none hV
  have kk0 := h0
  have lt0 : ∀ x ∈ p0, x.block < W.heap.size := by obtain ⟨m, hm⟩ := kk0; exact DataW.trod_lt m _ _ _ hm
  obtain ⟨a0, rfl, rfl, rfl, hw0⟩ := open_int Try.underlying3 (hval 0 3 v0 rfl rfl) h0
  have kk1 := h1
  have lt1 : ∀ x ∈ p1, x.block < W.heap.size := by obtain ⟨m, hm⟩ := kk1; exact DataW.trod_lt m _ _ _ hm
  obtain ⟨ao1, n1, co1, rfl⟩ := okWide_slice Try.underlying58 (hval 1 58 v1 rfl rfl)
  obtain ⟨l1, ⟨A1, C1, f1, hc1, hr1⟩, hb1, hw1⟩ := (rdg58 W).arg hsz (j := 1) (t := 58) rfl rfl h1
  obtain ⟨rfl, rfl, rfl⟩ : ao1 = A1 ∧ n1 = l1.length ∧ co1 = C1 := by simpa [Value.cells] using f1
  clear hA0 hval0 hsz0 hsz
  refine (interchangelaw13_PoolStays.calls a0 ao1 co1 l1 W hr1 hc1).mono fun e W' ⟨he, bel0⟩ => ?_
  have bel := bel0
  subst he
  exact ⟨_, rfl, _, _, _, [], _, [], hW', trodAll_mk1 (shut_bool Try.underlying4 _), (trodAll_cons_mk (Below.trod laidOut (by kernel_rfl) (of_decide_eq_true (by kernel_rfl)) kk0 bel lt0) (trodAll_cons_mk (Below.trod laidOut (by kernel_rfl) (of_decide_eq_true (by kernel_rfl)) kk1 bel lt1) trodAll_mk0)), rfl, bel.frame _, fun h => by cases h⟩
theorem over : Rows.poolStaysRow.holds Try.pinned (OpenSpec.ofChange Rows.poolStaysSpec) :=
  OpenClaim.holds_of_wide 9 Try.f9 rfl rfl rfl rfl rfl rfl rfl ⟨rfl, rfl, rfl, rfl, rfl⟩ rfl rfl rfl rfl rfl (by kernel_rfl) Try.func9 (by kernel_rfl)
    (of_decide_eq_true (by kernel_rfl)) (by unfold Func.isWrapper; first | (rw [if_pos (by decide +kernel)]; kernel_rfl) | (rw [if_neg (by decide +kernel)]; exact ⟨rfl, rfl⟩))
    (fun os started H enc _ => lifted os started H enc)
theorem proved : Rows.PoolStaysSaid := over
#print axioms proved
end Go.Proofs.Ytgiofigjnchfeaa.poolStays
namespace Go.Proofs.Ytgiofigjnchfeaa
/-- The row, under a short name, for the claim. -/
theorem poolStays_holds : Rows.PoolStaysSaid := poolStays.proved
end Go.Proofs.Ytgiofigjnchfeaa
