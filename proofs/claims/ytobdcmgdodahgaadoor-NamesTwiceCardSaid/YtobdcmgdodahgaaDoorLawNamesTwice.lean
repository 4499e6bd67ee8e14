/- The row of the law NamesTwice: what came in is read, and the law's call answers true. -/
import Derived.Test.YtobdcmgdodahgaaDoorK
import Derived.Test.YtobdcmgdodahgaaDoorQ8
import Derived.Test.YtobdcmgdodahgaaDoorPureNamesTwice
import Derived.Test.YtobdcmgdodahgaaDoorR
import Derived.WalkKit
import Derived.ProofKit
import Derived.OpenShut
import Derived.ShutString
import Derived.ChangeOld
import Derived.Below
import Derived.SizedLaws
import Derived.LaidMore
import Derived.SevenTiedAt
namespace Go.Proofs.YtobdcmgdodahgaaDoor.namesTwice
open Go.ChangeShapes Go.WideShapes Go.ChangeAt Go.RowKit Go.Proofs.YtobdcmgdodahgaaDoor.Q Go.Proofs.YtobdcmgdodahgaaDoorW.PrintWords Go.Proofs.YtobdcmgdodahgaaDoorW.PrintLast Go.Proofs.YtobdcmgdodahgaaDoorW.PrintMore
open Go.ChangeMaps (open_string shut_string)
set_option linter.unusedVariables false
theorem laidOut : laidOutB Tryd.prog = true := by kernel_rfl
theorem rdg9 (W : World) : Rdg Tryd.prog W 9 Kd.string (fun s => s.size ≤ reachBytes) := (Rdg.string Tryd.underlying9)
theorem rdg25 (W : World) : Rdg Tryd.prog W 25 (Kd.pair (Kd.int .i64) (Kd.pair (Kd.int .u64) (Kd.slice 31 k31))) (fun x => (fun a => (Lit.int .i64 a).wf = true) x.1 ∧ (fun x => (fun a => (Lit.int .u64 a).wf = true) x.1 ∧ (fun l => l.length * 40 ≤ reachBytes ∧ ∀ a ∈ l, (fun b => (fun x => (fun s => s.size ≤ reachBytes) x.1 ∧ (fun x => (fun s => s.size ≤ reachBytes) x.1 ∧ (fun _ => True) x.2) x.2) (b.f0, b.f1, b.f2)) a) x.2) x.2) := (Rdg.struct Tryd.underlying25 (by kernel_rfl) (RdgF.cons (Rdg.int Tryd.underlying3) rfl (by kernel_rfl) (RdgF.cons (Rdg.int Tryd.underlying22) rfl (by kernel_rfl) (RdgF.one (Rdg.slice (B := 40) (show Rdg Tryd.prog W 31 k31 (fun b => (fun x => (fun s => s.size ≤ reachBytes) x.1 ∧ (fun x => (fun s => s.size ≤ reachBytes) x.1 ∧ (fun _ => True) x.2) x.2) (b.f0, b.f1, b.f2)) from Rdg.iso (Rdg.struct Tryd.underlying31 (by kernel_rfl) (RdgF.cons (Rdg.string Tryd.underlying9) rfl (by kernel_rfl) (RdgF.cons (Rdg.string Tryd.underlying9) rfl (by kernel_rfl) (RdgF.one (Rdg.bool Tryd.underlying4) rfl (by kernel_rfl))))) (fun p => ⟨p.1, p.2.1, p.2.2⟩) (fun p => rfl)) Tryd.underlying23 (by kernel_rfl) (by kernel_rfl)) rfl (by kernel_rfl)))))
set_option maxHeartbeats 1000000 in
set_option maxRecDepth 100000 in
theorem lifted (os : Os) (started : os.Started) (H : Type) (enc : TypeId × Value → H) :
    ReturnsInHanded {} Tryd.checked os 8 .any (fun w args => (Rows.namesTwiceSpec.pre enc Tryd.prog Tryd.f8 [] false w args ∧ laidMetH Tryd.prog laids w) ∧ sizedMet enc Tryd.prog Tryd.f8 (OpenSpec.ofChange Rows.namesTwiceSpec) false w args)
      (Rows.namesTwiceSpec.post enc Tryd.prog Tryd.f8 false true false false) := by
  refine returnsInHanded_of_change_and (C := Tryd.checked) (X := fun w _ => laidMetH Tryd.prog laids w) (fun _ _ _ hh h => h.of_heap hh) own started (by kernel_rfl) Tryd.func8
    (ChangeSpec.witness_shaped (enc := enc) (C := Tryd.checked) (os := os) (X := fun w _ => laidMetH Tryd.prog laids w) false (World.doorLaid Tryd.prog 29 os) #[.agg #[.int .i64 0, .int .u64 0, .slice none 0 0], .string ByteArray.empty, .int .i64 0] 8 rfl (door_shaped os _) (by kernel_rfl) (by kernel_rfl) (by kernel_rfl) (door_met os _)) ?_
  intro W base args ds gs before hval0 hW hcnd hsz0 hL _
  have hTB := tabs_of_laid hL
  have hsz : (DataW.weightsEach Tryd.prog (Tryd.f8.params.toList ++ Rows.namesTwiceSpec.plain.varTypes Tryd.prog) (ds ++ gs)).all (· ≤ reachBytes) = true := hsz0
  have hval : ∀ (j : Nat) t v, Tryd.f8.params[j]? = some t → args[j]? = some v → Value.okWide Tryd.prog W .any base t v := hval0
  have hW' := hW
  obtain ⟨p, q, hA0, hV, rfl, hfz, hnd⟩ := hW
  have hA : DataW.TrodAll enc Tryd.prog W 0 (fun _ => true) true Tryd.f8.params.toList args.toList ds p := hA0
  rw [Tryd.params8] at hA hval hsz
  obtain ⟨v0, vs0, d0, ds0, p0, q0, hargs, rfl, rfl, h0, r0⟩ := trodAll_cons hA
  obtain ⟨v1, vs1, d1, ds1, p1, q1, rfl, rfl, rfl, h1, r1⟩ := trodAll_cons r0
  obtain ⟨v2, vs2, d2, ds2, p2, q2, rfl, rfl, rfl, h2, r2⟩ := trodAll_cons r1
  obtain ⟨rfl, rfl, rfl⟩ := trodAll_nil r2
  obtain rfl : args = #[v0, v1, v2] := by cases args; simp_all
  obtain ⟨rfl, rfl⟩ := trodVars_none hV
  have kk0 := h0
  have lt0 : ∀ x ∈ p0, x.block < W.heap.size := by obtain ⟨m, hm⟩ := kk0; exact DataW.trod_lt m _ _ _ hm
  obtain ⟨cs0, rfl, _⟩ := okWide_struct Tryd.underlying25 (hval 0 25 v0 rfl rfl)
  obtain ⟨⟨a0_0, a0_1, l0_2⟩, hk0, hwf0⟩ := (rdg25 W).arg hsz (j := 0) (t := 25) rfl rfl h0
  obtain ⟨hw0_0, hw0_1, ⟨hb0_2, hw0_2⟩⟩ := hwf0
  obtain ⟨c0_0, d0_0, e0_0, f0_0, ⟨c0_1, d0_1, e0_1, f0_1, ⟨A0_2, C0_2, f0_2, hc0_2, hr0_2⟩⟩⟩ := hk0
  obtain rfl : cs0 = #[.int .i64 a0_0, .int .u64 a0_1, .slice A0_2 l0_2.length C0_2] := by
    apply Array.toList_inj.1
    have e_ : cs0.toList = _ := e0_0
    subst f0_0
    subst e0_1
    subst f0_1
    subst f0_2
    simpa using e_
  have kk1 := h1
  have lt1 : ∀ x ∈ p1, x.block < W.heap.size := by obtain ⟨m, hm⟩ := kk1; exact DataW.trod_lt m _ _ _ hm
  obtain ⟨a1, f1, hw1⟩ := (rdg9 W).arg hsz (j := 1) (t := 9) rfl rfl h1
  obtain ⟨s1, rfl, _, _, y1⟩ := open_string Tryd.underlying9 (hval 1 9 v1 rfl rfl) h1
  obtain rfl : a1 = s1 := by have e_ : [Value.string s1] = [Value.string a1] := f1; simpa using e_.symm
  have kk2 := h2
  have lt2 : ∀ x ∈ p2, x.block < W.heap.size := by obtain ⟨m, hm⟩ := kk2; exact DataW.trod_lt m _ _ _ hm
  obtain ⟨a2, rfl, rfl, rfl, hw2⟩ := open_int Tryd.underlying3 (hval 2 3 v2 rfl rfl) h2
  clear hA0 hval0 hsz0 hsz
  obtain ⟨k, hk⟩ := Pure.NamesTwice a0_0 hw0_0 a0_1 hw0_1 l0_2 hb0_2 hw0_2 a1 hw1 a2 hw2
  refine (interchangelaw17_NamesTwice.calls k a0_0 a0_1 A0_2 C0_2 l0_2 a1 a2 true W hr0_2 hc0_2 ⟨rfl⟩ ⟨hTB⟩ hk).mono fun e W' ⟨he, bel0⟩ => ?_
  have bel := bel0
  subst he
  exact ⟨_, rfl, _, _, _, [], _, [], hW', trodAll_mk1 (shut_bool Tryd.underlying4 _), (trodAll_cons_mk (Below.trod laidOut (by kernel_rfl) (of_decide_eq_true (by kernel_rfl)) kk0 bel lt0) (trodAll_cons_mk (Below.trod laidOut (by kernel_rfl) (of_decide_eq_true (by kernel_rfl)) kk1 bel lt1) (trodAll_cons_mk (Below.trod laidOut (by kernel_rfl) (of_decide_eq_true (by kernel_rfl)) kk2 bel lt2) trodAll_mk0))), rfl, bel.frame _, fun h => by cases h⟩
theorem over : Rows.namesTwiceRow.holds Tryd.pinned (OpenSpec.ofChange Rows.namesTwiceSpec) :=
  OpenClaim.holds_of_wide 8 Tryd.f8 rfl rfl rfl rfl rfl rfl rfl ⟨rfl, rfl, rfl, rfl, rfl⟩ rfl rfl rfl rfl rfl (by kernel_rfl) Tryd.func8 (by kernel_rfl)
    (of_decide_eq_true (by kernel_rfl)) (by unfold Func.isWrapper; first | (rw [if_pos (by decide +kernel)]; kernel_rfl) | (rw [if_neg (by decide +kernel)]; exact ⟨rfl, rfl⟩))
    (fun os started H enc _ => lifted os started H enc)
theorem proved : Rows.NamesTwiceSaid := over
/-- No parameter wants a stand-in; the program's own looks are off: what the card asks. -/
theorem plain (f : FuncId) (fn : Func) (hf : Tryd.pinned.checked.prog.funcNamed "interchange/interchangelaw17.NamesTwice" = some f) (hfn : Tryd.pinned.checked.prog.funcs[f]? = some fn) :
    false = Tryd.pinned.checked.prog.looks [] ∧ ∀ (j : Nat) t, fn.params[j]? = some t → Tryd.pinned.checked.prog.wantsStandIn t = false := by
  obtain rfl : f = 8 := Option.some.inj ((show Tryd.prog.funcNamed "interchange/interchangelaw17.NamesTwice" = some 8 by kernel_rfl).symm.trans hf) |>.symm
  obtain rfl : fn = Tryd.f8 := (Option.some.inj (Tryd.func8.symm.trans hfn)).symm
  refine ⟨by kernel_rfl, fun j t ht => ?_⟩
  have hm := Array.mem_of_getElem? ht
  rw [Tryd.params8] at hm
  simp only [List.mem_toArray, List.mem_cons, List.not_mem_nil, or_false] at hm
  rcases hm with rfl | rfl | rfl
  · exact (show Tryd.prog.wantsStandIn 25 = false by kernel_rfl)
  · exact (show Tryd.prog.wantsStandIn 9 = false by kernel_rfl)
  · exact (show Tryd.prog.wantsStandIn 3 = false by kernel_rfl)
theorem card : Rows.NamesTwiceCardSaid :=
  Claim7.holds_tied_plain_at .later [] _ _ _ _ proved (fun _ h => by cases h) (by kernel_rfl) (fun _ h => by cases h) namesTwice_row_tie rfl ⟨rfl, rfl⟩ (by kernel_rfl) rfl plain (by kernel_rfl)
#print axioms card
end Go.Proofs.YtobdcmgdodahgaaDoor.namesTwice
namespace Go.Proofs.YtobdcmgdodahgaaDoor
/-- The card, under a short name, for the claim. -/
theorem namesTwice_holds : Rows.NamesTwiceCardSaid := namesTwice.card
end Go.Proofs.YtobdcmgdodahgaaDoor
