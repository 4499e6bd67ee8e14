/- The row of the law BeatNext: what came in is read, and the law's call answers true. -/
import Derived.Test.YteomnodigfcfeaaRows
import Derived.Test.YteomnodigfcfeaaQ6
import Derived.Test.YteomnodigfcfeaaPureBeatNext
import Derived.Test.YteomnodigfcfeaaR
import Derived.WalkKit
import Derived.ProofKit
import Derived.OpenShut
import Derived.ShutString
import Derived.ChangeOld
import Derived.Below
import Derived.SizedLaws
namespace Go.Proofs.Yteomnodigfcfeaa.beatNext
open Go.ChangeShapes Go.WideShapes Go.ChangeAt Go.RowKit Go.Proofs.Yteomnodigfcfeaa.Q Go.Proofs.YteomnodigfcfeaaW.PrintWords Go.Proofs.YteomnodigfcfeaaW.PrintLast Go.Proofs.YteomnodigfcfeaaW.PrintMore
open Go.ChangeMaps (open_string shut_string)
set_option linter.unusedVariables false
theorem own : ownKnob Try.prog.godebug = none := by kernel_rfl
theorem laidOut : laidOutB Try.prog = true := by kernel_rfl
theorem rdg22 (W : World) : Rdg Try.prog W 22 (Kd.slice 24 k24) (fun l => l.length * 16 ≤ reachBytes ∧ ∀ a ∈ l, (fun b => (fun x => (fun a => (Lit.int .i64 a).wf = true) x.1 ∧ (fun a => (Lit.int .i64 a).wf = true) x.2) (b.f0, b.f1)) a) := (Rdg.slice (B := 16) (show Rdg Try.prog W 24 k24 (fun b => (fun x => (fun a => (Lit.int .i64 a).wf = true) x.1 ∧ (fun a => (Lit.int .i64 a).wf = true) x.2) (b.f0, b.f1)) from Rdg.iso (Rdg.struct Try.underlying24 (by kernel_rfl) (RdgF.cons (Rdg.int Try.underlying3) rfl (by kernel_rfl) (RdgF.one (Rdg.int Try.underlying3) rfl (by kernel_rfl)))) (fun p => ⟨p.1, p.2⟩) (fun p => rfl)) Try.underlying22 (by kernel_rfl) (by kernel_rfl))
set_option maxRecDepth 100000 in
theorem lifted (os : Os) (started : os.Started) (H : Type) (enc : TypeId × Value → H) :
    ReturnsInHanded {} Try.checked os 6 .any (Rows.beatNextSpec.pre6 enc Try.prog Try.f6 Rows.beatNextRow.domain false) (Rows.beatNextSpec.post enc Try.prog Try.f6 false true false false) := by
  refine returnsInHanded_of_change_sized (C := Try.checked) own started (by kernel_rfl) Try.func6
    (ChangeSpec.witness6 (enc := enc) (C := Try.checked) false ⟨#[], #[.slice none 0 0], []⟩ 8 (by kernel_rfl) (by kernel_rfl) (by kernel_rfl) (by kernel_rfl)) ?_
  intro W base args ds gs before hval0 hW hcnd hsz0 _
  have hsz : (DataW.weightsEach Try.prog (Try.f6.params.toList ++ Rows.beatNextSpec.plain.varTypes Try.prog) (ds ++ gs)).all (· ≤ reachBytes) = true := hsz0
  have hval : ∀ (j : Nat) t v, Try.f6.params[j]? = some t → args[j]? = some v → Value.okWide Try.prog W .any base t v := hval0
  have hW' := hW
  obtain ⟨p, q, hA0, hV, rfl, hfz, hnd⟩ := hW
  have hA : DataW.TrodAll enc Try.prog W 0 (fun _ => true) true Try.f6.params.toList args.toList ds p := hA0
  rw [Try.params6] at hA hval hsz
  obtain ⟨v0, vs0, d0, ds0, p0, q0, hargs, rfl, rfl, h0, r0⟩ := trodAll_cons hA
  obtain ⟨rfl, rfl, rfl⟩ := trodAll_nil r0
  obtain rfl : args = #[v0] := by cases args; simp_all
  obtain ⟨rfl, rfl⟩ := trodVars_none hV
  have kk0 := h0
  have lt0 : ∀ x ∈ p0, x.block < W.heap.size := by obtain ⟨m, hm⟩ := kk0; exact DataW.trod_lt m _ _ _ hm
  obtain ⟨ao0, n0, co0, rfl⟩ := okWide_slice Try.underlying22 (hval 0 22 v0 rfl rfl)
  obtain ⟨l0, ⟨A0, C0, f0, hc0, hr0⟩, hb0, hw0⟩ := (rdg22 W).arg hsz (j := 0) (t := 22) rfl rfl h0
  obtain ⟨ea_, en_, ec_⟩ : ao0 = A0 ∧ n0 = l0.length ∧ co0 = C0 := by simpa [Value.cells] using f0
  obtain rfl := ea_.symm
  obtain rfl := en_.symm
  obtain rfl := ec_.symm
  clear hA0 hval0 hsz0 hsz
  obtain ⟨k, hk⟩ := Pure.BeatNext l0 hb0 hw0
  refine (interchangelaw12_BeatNext.calls k A0 C0 l0 true W hr0 hc0 ⟨rfl⟩ hk).mono fun e W' ⟨he, bel0⟩ => ?_
  have bel := bel0
  subst he
  exact ⟨_, rfl, _, _, _, [], _, [], hW', trodAll_mk1 (shut_bool Try.underlying4 _), (trodAll_cons_mk (Below.trod laidOut (by kernel_rfl) (of_decide_eq_true (by kernel_rfl)) kk0 bel lt0) trodAll_mk0), rfl, bel.frame _, fun h => by cases h⟩
theorem over : Rows.beatNextRow.holds Try.pinned (OpenSpec.ofChange Rows.beatNextSpec) :=
  OpenClaim.holds_of_wide 6 Try.f6 rfl rfl rfl rfl rfl rfl rfl ⟨rfl, rfl, rfl, rfl, rfl⟩ rfl rfl rfl rfl rfl (by kernel_rfl) Try.func6 (by kernel_rfl)
    (of_decide_eq_true (by kernel_rfl)) (by unfold Func.isWrapper; first | (rw [if_pos (by decide +kernel)]; kernel_rfl) | (rw [if_neg (by decide +kernel)]; exact ⟨rfl, rfl⟩))
    (fun os started H enc _ => lifted os started H enc)
theorem proved : Rows.BeatNextSaid := over
#print axioms proved
end Go.Proofs.Yteomnodigfcfeaa.beatNext
namespace Go.Proofs.Yteomnodigfcfeaa
/-- The row, under a short name, for the claim. -/
theorem beatNext_holds : Rows.BeatNextSaid := beatNext.proved
end Go.Proofs.Yteomnodigfcfeaa
