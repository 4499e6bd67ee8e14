/- The row of the law NamesStay: what came in is read, and the law's call answers true. -/
import Derived.Test.YtobdcmgdodahgaaDoorK
import Derived.Test.YtobdcmgdodahgaaDoorQ3
import Derived.Test.YtobdcmgdodahgaaDoorPureNamesStay
import Derived.Test.YtobdcmgdodahgaaDoorR
import Derived.WalkKit
import Derived.ProofKit
import Derived.OpenShut
import Derived.ShutString
import Derived.ChangeOld
import Derived.Below
import Derived.SizedLaws
import Derived.LaidMore
import Derived.SevenTiedAt
namespace Go.Proofs.YtobdcmgdodahgaaDoor.namesStay
open Go.ChangeShapes Go.WideShapes Go.ChangeAt Go.RowKit Go.Proofs.YtobdcmgdodahgaaDoor.Q Go.Proofs.YtobdcmgdodahgaaDoorW.PrintWords Go.Proofs.YtobdcmgdodahgaaDoorW.PrintLast Go.Proofs.YtobdcmgdodahgaaDoorW.PrintMore
open Go.ChangeMaps (open_string shut_string)
set_option linter.unusedVariables false
theorem laidOut : laidOutB Tryd.prog = true := by kernel_rfl
theorem rdg27 (W : World) : Rdg Tryd.prog W 27 (Kd.pair (Kd.pair (Kd.int .i64) (Kd.pair (Kd.int .u64) (Kd.slice 31 k31))) (Kd.pair Kd.string (Kd.pair Kd.bool (Kd.pair (Kd.int .i64) Kd.string)))) (fun x => (fun x => (fun a => (Lit.int .i64 a).wf = true) x.1 ∧ (fun x => (fun a => (Lit.int .u64 a).wf = true) x.1 ∧ (fun l => l.length * 40 ≤ reachBytes ∧ ∀ a ∈ l, (fun b => (fun x => (fun s => s.size ≤ reachBytes) x.1 ∧ (fun x => (fun s => s.size ≤ reachBytes) x.1 ∧ (fun _ => True) x.2) x.2) (b.f0, b.f1, b.f2)) a) x.2) x.2) x.1 ∧ (fun x => (fun s => s.size ≤ reachBytes) x.1 ∧ (fun x => (fun _ => True) x.1 ∧ (fun x => (fun a => (Lit.int .i64 a).wf = true) x.1 ∧ (fun s => s.size ≤ reachBytes) x.2) x.2) x.2) x.2) := (Rdg.struct Tryd.underlying27 (by kernel_rfl) (RdgF.cons (Rdg.struct Tryd.underlying25 (by kernel_rfl) (RdgF.cons (Rdg.int Tryd.underlying3) rfl (by kernel_rfl) (RdgF.cons (Rdg.int Tryd.underlying22) rfl (by kernel_rfl) (RdgF.one (Rdg.slice (B := 40) (show Rdg Tryd.prog W 31 k31 (fun b => (fun x => (fun s => s.size ≤ reachBytes) x.1 ∧ (fun x => (fun s => s.size ≤ reachBytes) x.1 ∧ (fun _ => True) x.2) x.2) (b.f0, b.f1, b.f2)) from Rdg.iso (Rdg.struct Tryd.underlying31 (by kernel_rfl) (RdgF.cons (Rdg.string Tryd.underlying9) rfl (by kernel_rfl) (RdgF.cons (Rdg.string Tryd.underlying9) rfl (by kernel_rfl) (RdgF.one (Rdg.bool Tryd.underlying4) rfl (by kernel_rfl))))) (fun p => ⟨p.1, p.2.1, p.2.2⟩) (fun p => rfl)) Tryd.underlying23 (by kernel_rfl) (by kernel_rfl)) rfl (by kernel_rfl))))) rfl (by kernel_rfl) (RdgF.cons (Rdg.string Tryd.underlying9) rfl (by kernel_rfl) (RdgF.cons (Rdg.bool Tryd.underlying4) rfl (by kernel_rfl) (RdgF.cons (Rdg.int Tryd.underlying3) rfl (by kernel_rfl) (RdgF.one (Rdg.string Tryd.underlying9) rfl (by kernel_rfl)))))))
set_option maxHeartbeats 1000000 in
set_option maxRecDepth 100000 in
theorem lifted (os : Os) (started : os.Started) (H : Type) (enc : TypeId × Value → H) :
    ReturnsInHanded {} Tryd.checked os 3 .any (fun w args => (Rows.namesStaySpec.pre enc Tryd.prog Tryd.f3 [] false w args ∧ laidMetH Tryd.prog laids w) ∧ sizedMet enc Tryd.prog Tryd.f3 (OpenSpec.ofChange Rows.namesStaySpec) false w args)
      (Rows.namesStaySpec.post enc Tryd.prog Tryd.f3 false true false false) := by
  refine returnsInHanded_of_change_and (C := Tryd.checked) (X := fun w _ => laidMetH Tryd.prog laids w) (fun _ _ _ hh h => h.of_heap hh) own started (by kernel_rfl) Tryd.func3
    (ChangeSpec.witness_shaped (enc := enc) (C := Tryd.checked) (os := os) (X := fun w _ => laidMetH Tryd.prog laids w) false (World.doorLaid Tryd.prog 29 os) #[.agg #[.int .i64 0, .int .u64 0, .slice none 0 0, .string ByteArray.empty, .bool false, .int .i64 0, .string ByteArray.empty]] 8 rfl (door_shaped os _) (by kernel_rfl) (by kernel_rfl) (by kernel_rfl) (door_met os _)) ?_
  intro W base args ds gs before hval0 hW hcnd hsz0 hL _
  have hTB := tabs_of_laid hL
  have hsz : (DataW.weightsEach Tryd.prog (Tryd.f3.params.toList ++ Rows.namesStaySpec.plain.varTypes Tryd.prog) (ds ++ gs)).all (· ≤ reachBytes) = true := hsz0
  have hval : ∀ (j : Nat) t v, Tryd.f3.params[j]? = some t → args[j]? = some v → Value.okWide Tryd.prog W .any base t v := hval0
  have hW' := hW
  obtain ⟨p, q, hA0, hV, rfl, hfz, hnd⟩ := hW
  have hA : DataW.TrodAll enc Tryd.prog W 0 (fun _ => true) true Tryd.f3.params.toList args.toList ds p := hA0
  rw [Tryd.params3] at hA hval hsz
  obtain ⟨v0, vs0, d0, ds0, p0, q0, hargs, rfl, rfl, h0, r0⟩ := trodAll_cons hA
  obtain ⟨rfl, rfl, rfl⟩ := trodAll_nil r0
  obtain rfl : args = #[v0] := by cases args; simp_all
  obtain ⟨rfl, rfl⟩ := trodVars_none hV
  have kk0 := h0
  have lt0 : ∀ x ∈ p0, x.block < W.heap.size := by obtain ⟨m, hm⟩ := kk0; exact DataW.trod_lt m _ _ _ hm
  obtain ⟨cs0, rfl, _⟩ := okWide_struct Tryd.underlying27 (hval 0 27 v0 rfl rfl)
  obtain ⟨⟨⟨a0_0_0, a0_0_1, l0_0_2⟩, a0_1, a0_2, a0_3, a0_4⟩, hk0, hwf0⟩ := (rdg27 W).arg hsz (j := 0) (t := 27) rfl rfl h0
  obtain ⟨⟨hw0_0_0, hw0_0_1, ⟨hb0_0_2, hw0_0_2⟩⟩, hw0_1, hw0_2, hw0_3, hw0_4⟩ := hwf0
  obtain ⟨c0_0, d0_0, e0_0, ⟨c0_0_0, d0_0_0, e0_0_0, f0_0_0, ⟨c0_0_1, d0_0_1, e0_0_1, f0_0_1, ⟨A0_0_2, C0_0_2, f0_0_2, hc0_0_2, hr0_0_2⟩⟩⟩, ⟨c0_1, d0_1, e0_1, f0_1, ⟨c0_2, d0_2, e0_2, f0_2, ⟨c0_3, d0_3, e0_3, f0_3, f0_4⟩⟩⟩⟩ := hk0
  obtain rfl : cs0 = #[.int .i64 a0_0_0, .int .u64 a0_0_1, .slice A0_0_2 l0_0_2.length C0_0_2, .string a0_1, .bool a0_2, .int .i64 a0_3, .string a0_4] := by
    apply Array.toList_inj.1
    have e_ : cs0.toList = _ := e0_0
    subst e0_0_0
    subst f0_0_0
    subst e0_0_1
    subst f0_0_1
    subst f0_0_2
    subst e0_1
    subst f0_1
    subst e0_2
    subst f0_2
    subst e0_3
    subst f0_3
    subst f0_4
    simpa using e_
  clear hA0 hval0 hsz0 hsz
  obtain ⟨k, hk⟩ := Pure.NamesStay a0_0_0 hw0_0_0 a0_0_1 hw0_0_1 l0_0_2 hb0_0_2 hw0_0_2 a0_1 hw0_1 a0_2 a0_3 hw0_3 a0_4 hw0_4
  refine (interchangelaw17_NamesStay.calls k a0_0_0 a0_0_1 A0_0_2 C0_0_2 l0_0_2 a0_1 a0_2 a0_3 a0_4 true W hr0_0_2 hc0_0_2 ⟨rfl⟩ ⟨hTB⟩ hk).mono fun e W' ⟨he, bel0⟩ => ?_
  have bel := bel0
  subst he
  exact ⟨_, rfl, _, _, _, [], _, [], hW', trodAll_mk1 (shut_bool Tryd.underlying4 _), (trodAll_cons_mk (Below.trod laidOut (by kernel_rfl) (of_decide_eq_true (by kernel_rfl)) kk0 bel lt0) trodAll_mk0), rfl, bel.frame _, fun h => by cases h⟩
theorem over : Rows.namesStayRow.holds Tryd.pinned (OpenSpec.ofChange Rows.namesStaySpec) :=
  OpenClaim.holds_of_wide 3 Tryd.f3 rfl rfl rfl rfl rfl rfl rfl ⟨rfl, rfl, rfl, rfl, rfl⟩ rfl rfl rfl rfl rfl (by kernel_rfl) Tryd.func3 (by kernel_rfl)
    (of_decide_eq_true (by kernel_rfl)) (by unfold Func.isWrapper; first | (rw [if_pos (by decide +kernel)]; kernel_rfl) | (rw [if_neg (by decide +kernel)]; exact ⟨rfl, rfl⟩))
    (fun os started H enc _ => lifted os started H enc)
theorem proved : Rows.NamesStaySaid := over
/-- No parameter wants a stand-in; the program's own looks are off: what the card asks. -/
theorem plain (f : FuncId) (fn : Func) (hf : Tryd.pinned.checked.prog.funcNamed "interchange/interchangelaw17.NamesStay" = some f) (hfn : Tryd.pinned.checked.prog.funcs[f]? = some fn) :
    false = Tryd.pinned.checked.prog.looks [] ∧ ∀ (j : Nat) t, fn.params[j]? = some t → Tryd.pinned.checked.prog.wantsStandIn t = false := by
  obtain rfl : f = 3 := Option.some.inj ((show Tryd.prog.funcNamed "interchange/interchangelaw17.NamesStay" = some 3 by kernel_rfl).symm.trans hf) |>.symm
  obtain rfl : fn = Tryd.f3 := (Option.some.inj (Tryd.func3.symm.trans hfn)).symm
  refine ⟨by kernel_rfl, fun j t ht => ?_⟩
  have hm := Array.mem_of_getElem? ht
  rw [Tryd.params3] at hm
  simp only [List.mem_toArray, List.mem_cons, List.not_mem_nil, or_false] at hm
  rcases hm with rfl
  · exact (show Tryd.prog.wantsStandIn 27 = false by kernel_rfl)
theorem card : Rows.NamesStayCardSaid :=
  Claim7.holds_tied_plain_at .later [] _ _ _ _ proved (fun _ h => by cases h) (by kernel_rfl) (fun _ h => by cases h) namesStay_row_tie rfl ⟨rfl, rfl⟩ (by kernel_rfl) rfl plain (by kernel_rfl)
#print axioms card
end Go.Proofs.YtobdcmgdodahgaaDoor.namesStay
namespace Go.Proofs.YtobdcmgdodahgaaDoor
/-- The card, under a short name, for the claim. -/
theorem namesStay_holds : Rows.NamesStayCardSaid := namesStay.card
end Go.Proofs.YtobdcmgdodahgaaDoor
