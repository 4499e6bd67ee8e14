/- The row of the law PoolActs: what came in is read, and the law's call answers true. -/
import Derived.Test.YtgiofigjnchfeaaRows
import Derived.Test.YtgiofigjnchfeaaQ8
import Derived.Test.YtgiofigjnchfeaaPurePoolActs
import Derived.Test.YtgiofigjnchfeaaR
import Derived.WalkKit
import Derived.ProofKit
import Derived.OpenShut
import Derived.ShutString
import Derived.ChangeOld
import Derived.Below
import Derived.SizedLaws
namespace Go.Proofs.Ytgiofigjnchfeaa.poolActs
open Go.ChangeShapes Go.WideShapes Go.ChangeAt Go.RowKit Go.Proofs.Ytgiofigjnchfeaa.Q Go.Proofs.YtgiofigjnchfeaaW.PrintWords Go.Proofs.YtgiofigjnchfeaaW.PrintLast Go.Proofs.YtgiofigjnchfeaaW.PrintMore
open Go.ChangeMaps (open_string shut_string)
set_option linter.unusedVariables false
theorem own : ownKnob Try.prog.godebug = none := by kernel_rfl
theorem laidOut : laidOutB Try.prog = true := by kernel_rfl
theorem rdg52 (W : World) : Rdg Try.prog W 52 (Kd.pair (Kd.pair (Kd.slice 3 (Kd.int .i64)) (Kd.slice 29 k29)) (Kd.pair (Kd.int .i64) (Kd.pair (Kd.int .i64) (Kd.pair (Kd.int .i64) (Kd.int .i64))))) (fun x => (fun x => (fun l => l.length * 8 ≤ reachBytes ∧ ∀ a ∈ l, (fun a => (Lit.int .i64 a).wf = true) a) x.1 ∧ (fun l => l.length * 32 ≤ reachBytes ∧ ∀ a ∈ l, (fun b => (fun x => (fun a => (Lit.int .i64 a).wf = true) x.1 ∧ (fun x => (fun a => (Lit.int .i64 a).wf = true) x.1 ∧ (fun x => (fun a => (Lit.int .i64 a).wf = true) x.1 ∧ (fun a => (Lit.int .i64 a).wf = true) x.2) x.2) x.2) (b.f0, b.f1, b.f2, b.f3)) a) x.2) x.1 ∧ (fun x => (fun a => (Lit.int .i64 a).wf = true) x.1 ∧ (fun x => (fun a => (Lit.int .i64 a).wf = true) x.1 ∧ (fun x => (fun a => (Lit.int .i64 a).wf = true) x.1 ∧ (fun a => (Lit.int .i64 a).wf = true) x.2) x.2) x.2) x.2) := (Rdg.struct Try.underlying52 (by kernel_rfl) (RdgF.cons (Rdg.struct Try.underlying25 (by kernel_rfl) (RdgF.cons (Rdg.slice (B := 8) (Rdg.int Try.underlying3) Try.underlying22 (by kernel_rfl) (by kernel_rfl)) rfl (by kernel_rfl) (RdgF.one (Rdg.slice (B := 32) (show Rdg Try.prog W 29 k29 (fun b => (fun x => (fun a => (Lit.int .i64 a).wf = true) x.1 ∧ (fun x => (fun a => (Lit.int .i64 a).wf = true) x.1 ∧ (fun x => (fun a => (Lit.int .i64 a).wf = true) x.1 ∧ (fun a => (Lit.int .i64 a).wf = true) x.2) x.2) x.2) (b.f0, b.f1, b.f2, b.f3)) from Rdg.iso (Rdg.struct Try.underlying29 (by kernel_rfl) (RdgF.cons (Rdg.int Try.underlying3) rfl (by kernel_rfl) (RdgF.cons (Rdg.int Try.underlying3) rfl (by kernel_rfl) (RdgF.cons (Rdg.int Try.underlying3) rfl (by kernel_rfl) (RdgF.one (Rdg.int Try.underlying3) rfl (by kernel_rfl)))))) (fun p => ⟨p.1, p.2.1, p.2.2.1, p.2.2.2⟩) (fun p => rfl)) Try.underlying23 (by kernel_rfl) (by kernel_rfl)) rfl (by kernel_rfl)))) rfl (by kernel_rfl) (RdgF.cons (Rdg.int Try.underlying3) rfl (by kernel_rfl) (RdgF.cons (Rdg.int Try.underlying3) rfl (by kernel_rfl) (RdgF.cons (Rdg.int Try.underlying3) rfl (by kernel_rfl) (RdgF.one (Rdg.int Try.underlying3) rfl (by kernel_rfl)))))))
set_option maxRecDepth 100000 in
theorem lifted (os : Os) (started : os.Started) (H : Type) (enc : TypeId × Value → H) :
    ReturnsInHanded {} Try.checked os 8 .any (Rows.poolActsSpec.pre6 enc Try.prog Try.f8 Rows.poolActsRow.domain false) (Rows.poolActsSpec.post enc Try.prog Try.f8 false true false false) := by
  refine returnsInHanded_of_change_sized (C := Try.checked) own started (by kernel_rfl) Try.func8
    (ChangeSpec.witness6 (enc := enc) (C := Try.checked) false ⟨#[], #[.agg #[.slice none 0 0, .slice none 0 0, .int .i64 0, .int .i64 0, .int .i64 0, .int .i64 0]], []⟩ 8 (by kernel_rfl) (by kernel_rfl) (by kernel_rfl) (by kernel_rfl)) ?_
  intro W base args ds gs before hval0 hW hcnd hsz0 _
  have hsz : (DataW.weightsEach Try.prog (Try.f8.params.toList ++ Rows.poolActsSpec.plain.varTypes Try.prog) (ds ++ gs)).all (· ≤ reachBytes) = true := hsz0
  have hval : ∀ (j : Nat) t v, Try.f8.params[j]? = some t → args[j]? = some v → Value.okWide Try.prog W .any base t v := hval0
  have hW' := hW
  obtain ⟨p, q, hA0, hV, rfl, hfz, hnd⟩ := hW
  have hA : DataW.TrodAll enc Try.prog W 0 (fun _ => true) true Try.f8.params.toList args.toList ds p := hA0
  rw [Try.params8] at hA hval hsz
  obtain ⟨v0, vs0, d0, ds0, p0, q0, hargs, rfl, rfl, h0, r0⟩ := trodAll_cons hA
  obtain ⟨rfl, rfl, rfl⟩ := trodAll_nil r0
  obtain rfl : args = #[v0] := by cases args; simp_all
  obtain ⟨rfl, rfl⟩ := trodVars_none hV
  have kk0 := h0
  have lt0 : ∀ x ∈ p0, x.block < W.heap.size := by obtain ⟨m, hm⟩ := kk0; exact DataW.trod_lt m _ _ _ hm
  obtain ⟨cs0, rfl, _⟩ := okWide_struct Try.underlying52 (hval 0 52 v0 rfl rfl)
  obtain ⟨⟨⟨l0_0_0, l0_0_1⟩, a0_1, a0_2, a0_3, a0_4⟩, hk0, hwf0⟩ := (rdg52 W).arg hsz (j := 0) (t := 52) rfl rfl h0
  obtain ⟨⟨⟨hb0_0_0, hw0_0_0⟩, ⟨hb0_0_1, hw0_0_1⟩⟩, hw0_1, hw0_2, hw0_3, hw0_4⟩ := hwf0
  obtain ⟨c0_0, d0_0, e0_0, ⟨c0_0_0, d0_0_0, e0_0_0, ⟨A0_0_0, C0_0_0, f0_0_0, hc0_0_0, hr0_0_0⟩, ⟨A0_0_1, C0_0_1, f0_0_1, hc0_0_1, hr0_0_1⟩⟩, ⟨c0_1, d0_1, e0_1, f0_1, ⟨c0_2, d0_2, e0_2, f0_2, ⟨c0_3, d0_3, e0_3, f0_3, f0_4⟩⟩⟩⟩ := hk0
  obtain rfl : cs0 = #[.slice A0_0_0 l0_0_0.length C0_0_0, .slice A0_0_1 l0_0_1.length C0_0_1, .int .i64 a0_1, .int .i64 a0_2, .int .i64 a0_3, .int .i64 a0_4] := by
    apply Array.toList_inj.1
    have e_ : cs0.toList = _ := e0_0
    subst e0_0_0
    subst f0_0_0
    subst f0_0_1
    subst e0_1
    subst f0_1
    subst e0_2
    subst f0_2
    subst e0_3
    subst f0_3
    subst f0_4
    simpa using e_
  clear hA0 hval0 hsz0 hsz
  obtain ⟨k, hk⟩ := Pure.PoolActs l0_0_0 hb0_0_0 hw0_0_0 l0_0_1 hb0_0_1 hw0_0_1 a0_1 hw0_1 a0_2 hw0_2 a0_3 hw0_3 a0_4 hw0_4
  refine (interchangelaw13_PoolActs.calls k A0_0_0 C0_0_0 l0_0_0 A0_0_1 C0_0_1 l0_0_1 a0_1 a0_2 a0_3 a0_4 true W hr0_0_0 hc0_0_0 hr0_0_1 hc0_0_1 ⟨rfl⟩ hk).mono fun e W' ⟨he, bel0⟩ => ?_
  have bel := bel0
  subst he
  exact ⟨_, rfl, _, _, _, [], _, [], hW', trodAll_mk1 (shut_bool Try.underlying4 _), (trodAll_cons_mk (Below.trod laidOut (by kernel_rfl) (of_decide_eq_true (by kernel_rfl)) kk0 bel lt0) trodAll_mk0), rfl, bel.frame _, fun h => by cases h⟩
theorem over : Rows.poolActsRow.holds Try.pinned (OpenSpec.ofChange Rows.poolActsSpec) :=
  OpenClaim.holds_of_wide 8 Try.f8 rfl rfl rfl rfl rfl rfl rfl ⟨rfl, rfl, rfl, rfl, rfl⟩ rfl rfl rfl rfl rfl (by kernel_rfl) Try.func8 (by kernel_rfl)
    (of_decide_eq_true (by kernel_rfl)) (by unfold Func.isWrapper; first | (rw [if_pos (by decide +kernel)]; kernel_rfl) | (rw [if_neg (by decide +kernel)]; exact ⟨rfl, rfl⟩))
    (fun os started H enc _ => lifted os started H enc)
theorem proved : Rows.PoolActsSaid := over
#print axioms proved
end Go.Proofs.Ytgiofigjnchfeaa.poolActs
namespace Go.Proofs.Ytgiofigjnchfeaa
/-- The row, under a short name, for the claim. -/
theorem poolActs_holds : Rows.PoolActsSaid := poolActs.proved
end Go.Proofs.Ytgiofigjnchfeaa
