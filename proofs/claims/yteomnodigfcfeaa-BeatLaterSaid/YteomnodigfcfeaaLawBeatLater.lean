/- The row of the law BeatLater: what came in is read, and the law's call answers true. -/
import Derived.Test.YteomnodigfcfeaaRows
import Derived.Test.YteomnodigfcfeaaQ7
import Derived.Test.YteomnodigfcfeaaPureBeatLater
import Derived.Test.YteomnodigfcfeaaR
import Derived.WalkKit
import Derived.ProofKit
import Derived.OpenShut
import Derived.ShutString
import Derived.ChangeOld
import Derived.Below
import Derived.SizedLaws
namespace Go.Proofs.Yteomnodigfcfeaa.beatLater
open Go.ChangeShapes Go.WideShapes Go.ChangeAt Go.RowKit Go.Proofs.Yteomnodigfcfeaa.Q Go.Proofs.YteomnodigfcfeaaW.PrintWords Go.Proofs.YteomnodigfcfeaaW.PrintLast Go.Proofs.YteomnodigfcfeaaW.PrintMore
open Go.ChangeMaps (open_string shut_string)
set_option linter.unusedVariables false
theorem own : ownKnob Try.prog.godebug = none := by kernel_rfl
theorem laidOut : laidOutB Try.prog = true := by kernel_rfl
theorem rdg22 (W : World) : Rdg Try.prog W 22 (Kd.slice 24 k24) (fun l => l.length * 16 ≤ reachBytes ∧ ∀ a ∈ l, (fun b => (fun x => (fun a => (Lit.int .i64 a).wf = true) x.1 ∧ (fun a => (Lit.int .i64 a).wf = true) x.2) (b.f0, b.f1)) a) := (Rdg.slice (B := 16) (show Rdg Try.prog W 24 k24 (fun b => (fun x => (fun a => (Lit.int .i64 a).wf = true) x.1 ∧ (fun a => (Lit.int .i64 a).wf = true) x.2) (b.f0, b.f1)) from Rdg.iso (Rdg.struct Try.underlying24 (by kernel_rfl) (RdgF.cons (Rdg.int Try.underlying3) rfl (by kernel_rfl) (RdgF.one (Rdg.int Try.underlying3) rfl (by kernel_rfl)))) (fun p => ⟨p.1, p.2⟩) (fun p => rfl)) Try.underlying22 (by kernel_rfl) (by kernel_rfl))
set_option maxRecDepth 100000 in
theorem lifted (os : Os) (started : os.Started) (H : Type) (enc : TypeId × Value → H) :
    ReturnsInHanded {} Try.checked os 7 .any (Rows.beatLaterSpec.pre6 enc Try.prog Try.f7 Rows.beatLaterRow.domain false) (Rows.beatLaterSpec.post enc Try.prog Try.f7 false true false false) := by
  refine returnsInHanded_of_change_sized (C := Try.checked) own started (by kernel_rfl) Try.func7
    (ChangeSpec.witness6 (enc := enc) (C := Try.checked) false ⟨#[], #[.slice none 0 0, .int .i64 0, .int .i64 0], []⟩ 8 (by kernel_rfl) (by kernel_rfl) (by kernel_rfl) (by kernel_rfl)) ?_
  intro W base args ds gs before hval0 hW hcnd hsz0 _
  have hsz : (DataW.weightsEach Try.prog (Try.f7.params.toList ++ Rows.beatLaterSpec.plain.varTypes Try.prog) (ds ++ gs)).all (· ≤ reachBytes) = true := hsz0
  have hval : ∀ (j : Nat) t v, Try.f7.params[j]? = some t → args[j]? = some v → Value.okWide Try.prog W .any base t v := hval0
  have hW' := hW
  obtain ⟨p, q, hA0, hV, rfl, hfz, hnd⟩ := hW
  have hA : DataW.TrodAll enc Try.prog W 0 (fun _ => true) true Try.f7.params.toList args.toList ds p := hA0
  rw [Try.params7] at hA hval hsz
  obtain ⟨v0, vs0, d0, ds0, p0, q0, hargs, rfl, rfl, h0, r0⟩ := trodAll_cons hA
  obtain ⟨v1, vs1, d1, ds1, p1, q1, rfl, rfl, rfl, h1, r1⟩ := trodAll_cons r0
  obtain ⟨v2, vs2, d2, ds2, p2, q2, rfl, rfl, rfl, h2, r2⟩ := trodAll_cons r1
  obtain ⟨rfl, rfl, rfl⟩ := trodAll_nil r2
  obtain rfl : args = #[v0, v1, v2] := by cases args; simp_all
  obtain ⟨rfl, rfl⟩ := trodVars_none hV
  have kk0 := h0
  have lt0 : ∀ x ∈ p0, x.block < W.heap.size := by obtain ⟨m, hm⟩ := kk0; exact DataW.trod_lt m _ _ _ hm
  obtain ⟨ao0, n0, co0, rfl⟩ := okWide_slice Try.underlying22 (hval 0 22 v0 rfl rfl)
  obtain ⟨l0, ⟨A0, C0, f0, hc0, hr0⟩, hb0, hw0⟩ := (rdg22 W).arg hsz (j := 0) (t := 22) rfl rfl h0
  obtain ⟨ea_, en_, ec_⟩ : ao0 = A0 ∧ n0 = l0.length ∧ co0 = C0 := by simpa [Value.cells] using f0
  obtain rfl := ea_.symm
  obtain rfl := en_.symm
  obtain rfl := ec_.symm
  have kk1 := h1
  have lt1 : ∀ x ∈ p1, x.block < W.heap.size := by obtain ⟨m, hm⟩ := kk1; exact DataW.trod_lt m _ _ _ hm
  obtain ⟨a1, rfl, rfl, rfl, hw1⟩ := open_int Try.underlying3 (hval 1 3 v1 rfl rfl) h1
  have kk2 := h2
  have lt2 : ∀ x ∈ p2, x.block < W.heap.size := by obtain ⟨m, hm⟩ := kk2; exact DataW.trod_lt m _ _ _ hm
  obtain ⟨a2, rfl, rfl, rfl, hw2⟩ := open_int Try.underlying3 (hval 2 3 v2 rfl rfl) h2
  clear hA0 hval0 hsz0 hsz
  obtain ⟨k, hk⟩ := Pure.BeatLater l0 hb0 hw0 a1 hw1 a2 hw2
  refine (interchangelaw12_BeatLater.calls k A0 C0 l0 a1 a2 true W hr0 hc0 ⟨rfl⟩ hk).mono fun e W' ⟨he, bel0⟩ => ?_
  have bel := bel0
  subst he
  exact ⟨_, rfl, _, _, _, [], _, [], hW', trodAll_mk1 (shut_bool Try.underlying4 _), (trodAll_cons_mk (Below.trod laidOut (by kernel_rfl) (of_decide_eq_true (by kernel_rfl)) kk0 bel lt0) (trodAll_cons_mk (Below.trod laidOut (by kernel_rfl) (of_decide_eq_true (by kernel_rfl)) kk1 bel lt1) (trodAll_cons_mk (Below.trod laidOut (by kernel_rfl) (of_decide_eq_true (by kernel_rfl)) kk2 bel lt2) trodAll_mk0))), rfl, bel.frame _, fun h => by cases h⟩
theorem over : Rows.beatLaterRow.holds Try.pinned (OpenSpec.ofChange Rows.beatLaterSpec) :=
  OpenClaim.holds_of_wide 7 Try.f7 rfl rfl rfl rfl rfl rfl rfl ⟨rfl, rfl, rfl, rfl, rfl⟩ rfl rfl rfl rfl rfl (by kernel_rfl) Try.func7 (by kernel_rfl)
    (of_decide_eq_true (by kernel_rfl)) (by unfold Func.isWrapper; first | (rw [if_pos (by decide +kernel)]; kernel_rfl) | (rw [if_neg (by decide +kernel)]; exact ⟨rfl, rfl⟩))
    (fun os started H enc _ => lifted os started H enc)
theorem proved : Rows.BeatLaterSaid := over
#print axioms proved
end Go.Proofs.Yteomnodigfcfeaa.beatLater
namespace Go.Proofs.Yteomnodigfcfeaa
/-- The row, under a short name, for the claim. -/
theorem beatLater_holds : Rows.BeatLaterSaid := beatLater.proved
end Go.Proofs.Yteomnodigfcfeaa
