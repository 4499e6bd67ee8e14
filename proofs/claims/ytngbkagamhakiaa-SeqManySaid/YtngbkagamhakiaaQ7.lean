/- This text was written by a program of this session: what each Go function computes, as a Lean function, and that its call does so. -/
import Derived.Test.YtngbkagamhakiaaQ0
import Derived.Test.YtngbkagamhakiaaV
import Derived.Test.YtngbkagamhakiaaQ13
import Derived.Test.YtngbkagamhakiaaQ15
import Derived.Test.YtngbkagamhakiaaQ16
import Derived.Test.YtngbkagamhakiaaQ9
import Derived.Test.YtngbkagamhakiaaH9
import Derived.Test.YtngbkagamhakiaaH12
namespace Go.Proofs.Ytngbkagamhakiaa.Q
open Go.RowKit Go.Proofs.YtngbkagamhakiaaW.PrintWords Go.Proofs.YtngbkagamhakiaaW.PrintLast Go.Proofs.YtngbkagamhakiaaW.PrintMore
attribute [local go_sem] max2_int min2_int max_two min_two max_three min_three max_four min_four   -- for this text's walks alone
set_option linter.unusedVariables false
set_option linter.unusedSimpArgs false

/-! ### interchangelaw16_SeqMany: function 7 -/
mutual
def interchangelaw16_SeqMany.j0 : Nat → Int → Bool → Bool → Bool → Int → Int → List Int → Option (Bool)
  | 0, _, _, _, _, _, _, _ => none
  | k + 1, x1, x5, x26, x307000, x307001, x307002, x307003 => if x26 = true then (some x5) else ((seq_Confirm.f x307000 x307001 x307002 x307003 x1 true).bind fun bt309 => (if bt309.2.2.2.2.2 = 0 then (interchangelaw16_SeqMany.l0 k x1 x5 bt309.2.2.2.2.1 ([] : List Int) 0 x307000 x307001 x307002 x307003 bt309.1 bt309.2.1 bt309.2.2.1 bt309.2.2.2.1 x307000 x307001 x307002 x307003) else (some x5)))
def interchangelaw16_SeqMany.l0 : Nat → Int → Bool → List Int → List Int → Int → Bool → Int → Int → List Int → Bool → Int → Int → List Int → Bool → Int → Int → List Int → Option (Bool)
  | 0, _, _, _, _, _, _, _, _, _, _, _, _, _, _, _, _, _ => none
  | k + 1, x1, x5, x8, x11, x12, x307000, x307001, x307002, x307003, x320000, x320001, x320002, x320003, x321000, x321001, x321002, x321003 => if x12 < (x307003.length : Int) then (if x1 = 0 then (interchangelaw16_SeqMany.j2 k x1 x5 x8 x11 x12 false x307000 x307001 x307002 x307003 x320000 x320001 x320002 x320003 x321000 x321001 x321002 x321003) else (if 0 ≤ x12 then (interchangelaw16_SeqMany.j2 k x1 x5 x8 x11 x12 (decide ((IntKind.u64.wrap ((rd x307003 x12) + x307002)) > x1)) x307000 x307001 x307002 x307003 x320000 x320001 x320002 x320003 x321000 x321001 x321002 x321003) else (none))) else (if x5 = true then ((interchangeref15_Nums.f k x11 x8).bind fun t321 => (if t321 = true then ((seq_Same.f k x321000 x321001 x321002 x321003 x320000 x320001 x320002 x320003).bind fun t322 => (some t322)) else (some false))) else (some false))
def interchangelaw16_SeqMany.j2 : Nat → Int → Bool → List Int → List Int → Int → Bool → Bool → Int → Int → List Int → Bool → Int → Int → List Int → Bool → Int → Int → List Int → Option (Bool)
  | 0, _, _, _, _, _, _, _, _, _, _, _, _, _, _, _, _, _, _ => none
  | k + 1, x1, x5, x8, x11, x12, x59, x307000, x307001, x307002, x307003, x320000, x320001, x320002, x320003, x321000, x321001, x321002, x321003 => if x59 = true then (interchangelaw16_SeqMany.l0 k x1 x5 x8 x11 (wrap64 (x12 + 1)) x307000 x307001 x307002 x307003 x320000 x320001 x320002 x320003 x321000 x321001 x321002 x321003) else (if 0 ≤ x12 then (if x12 < (x307003.length : Int) then ((seq_Confirm.f x321000 x321001 x321002 x321003 (IntKind.u64.wrap ((rd x307003 x12) + x307002)) false).bind fun bt325 => (if bt325.2.2.2.2.2 = 0 then (if x11.length + bt325.2.2.2.2.1.length < 17592186044416 then (interchangelaw16_SeqMany.l0 k x1 x5 x8 (x11 ++ bt325.2.2.2.2.1) (wrap64 (x12 + 1)) x307000 x307001 x307002 x307003 x320000 x320001 x320002 x320003 bt325.1 bt325.2.1 bt325.2.2.1 bt325.2.2.2.1) else (none)) else (some false))) else (none)) else (none))
end
def interchangelaw16_SeqMany.f (k : Nat) (a0_0 : Bool) (a0_1 : Int) (a0_2 : Int) (l0_3 : List Int) (a1 : Int) : Option (Bool) := (interchangelaw16_shown.f).bind fun t307 => ((interchangeref16_Right.f k a0_0 a0_1 a0_2 l0_3).bind fun t308 => (if t308 = true then (interchangelaw16_SeqMany.j0 k a1 true (decide ((l0_3.length : Int) > 100)) a0_0 a0_1 a0_2 l0_3) else (interchangelaw16_SeqMany.j0 k a1 true true a0_0 a0_1 a0_2 l0_3)))
theorem interchangelaw16_SeqMany.mono_l : ∀ k, (∀ y0 y1 y2 y3 y4 y5 y6, LeO (interchangelaw16_SeqMany.j0 k y0 y1 y2 y3 y4 y5 y6) (interchangelaw16_SeqMany.j0 (k + 1) y0 y1 y2 y3 y4 y5 y6)) ∧ (∀ y0 y1 y2 y3 y4 y5 y6 y7 y8 y9 y10 y11 y12 y13 y14 y15 y16, LeO (interchangelaw16_SeqMany.l0 k y0 y1 y2 y3 y4 y5 y6 y7 y8 y9 y10 y11 y12 y13 y14 y15 y16) (interchangelaw16_SeqMany.l0 (k + 1) y0 y1 y2 y3 y4 y5 y6 y7 y8 y9 y10 y11 y12 y13 y14 y15 y16)) ∧ (∀ y0 y1 y2 y3 y4 y5 y6 y7 y8 y9 y10 y11 y12 y13 y14 y15 y16 y17, LeO (interchangelaw16_SeqMany.j2 k y0 y1 y2 y3 y4 y5 y6 y7 y8 y9 y10 y11 y12 y13 y14 y15 y16 y17) (interchangelaw16_SeqMany.j2 (k + 1) y0 y1 y2 y3 y4 y5 y6 y7 y8 y9 y10 y11 y12 y13 y14 y15 y16 y17))
  | 0 => ⟨fun _ _ _ _ _ _ _ r h => by simp [interchangelaw16_SeqMany.j0] at h, fun _ _ _ _ _ _ _ _ _ _ _ _ _ _ _ _ _ r h => by simp [interchangelaw16_SeqMany.l0] at h, fun _ _ _ _ _ _ _ _ _ _ _ _ _ _ _ _ _ _ r h => by simp [interchangelaw16_SeqMany.j2] at h⟩
  | k + 1 => by
    obtain ⟨ih0, ih1, ih2⟩ := interchangelaw16_SeqMany.mono_l k
    refine ⟨?_, ?_, ?_⟩
    · intro y0 y1 y2 y3 y4 y5 y6
      unfold interchangelaw16_SeqMany.j0
      repeat' first
      | (with_reducible exact ih0 _ _ _ _ _ _ _)
      | (with_reducible exact ih1 _ _ _ _ _ _ _ _ _ _ _ _ _ _ _ _ _)
      | (with_reducible exact ih2 _ _ _ _ _ _ _ _ _ _ _ _ _ _ _ _ _ _)
      | (with_reducible exact interchangeref15_Nums.mono _ _ _)
      | (with_reducible exact interchangeref16_Right.mono _ _ _ _ _)
      | (with_reducible exact seq_Same.mono _ _ _ _ _ _ _ _ _)
      | (with_reducible exact LeO.refl _)
      | (with_reducible exact LeO.none _)
      | (with_reducible refine LeO.ite ?_ ?_)
      | (with_reducible refine LeO.bind ?_ (fun _ => ?_))
      | exact ih0 _ _ _ _ _ _ _
      | exact ih1 _ _ _ _ _ _ _ _ _ _ _ _ _ _ _ _ _
      | exact ih2 _ _ _ _ _ _ _ _ _ _ _ _ _ _ _ _ _ _
      | exact interchangeref15_Nums.mono _ _ _
      | exact interchangeref16_Right.mono _ _ _ _ _
      | exact seq_Same.mono _ _ _ _ _ _ _ _ _
      | exact LeO.none _
      | refine LeO.ite ?_ ?_
      | refine LeO.bind ?_ (fun _ => ?_)
    · intro y0 y1 y2 y3 y4 y5 y6 y7 y8 y9 y10 y11 y12 y13 y14 y15 y16
      unfold interchangelaw16_SeqMany.l0
      repeat' first
      | (with_reducible exact ih0 _ _ _ _ _ _ _)
      | (with_reducible exact ih1 _ _ _ _ _ _ _ _ _ _ _ _ _ _ _ _ _)
      | (with_reducible exact ih2 _ _ _ _ _ _ _ _ _ _ _ _ _ _ _ _ _ _)
      | (with_reducible exact interchangeref15_Nums.mono _ _ _)
      | (with_reducible exact interchangeref16_Right.mono _ _ _ _ _)
      | (with_reducible exact seq_Same.mono _ _ _ _ _ _ _ _ _)
      | (with_reducible exact LeO.refl _)
      | (with_reducible exact LeO.none _)
      | (with_reducible refine LeO.ite ?_ ?_)
      | (with_reducible refine LeO.bind ?_ (fun _ => ?_))
      | exact ih0 _ _ _ _ _ _ _
      | exact ih1 _ _ _ _ _ _ _ _ _ _ _ _ _ _ _ _ _
      | exact ih2 _ _ _ _ _ _ _ _ _ _ _ _ _ _ _ _ _ _
      | exact interchangeref15_Nums.mono _ _ _
      | exact interchangeref16_Right.mono _ _ _ _ _
      | exact seq_Same.mono _ _ _ _ _ _ _ _ _
      | exact LeO.none _
      | refine LeO.ite ?_ ?_
      | refine LeO.bind ?_ (fun _ => ?_)
    · intro y0 y1 y2 y3 y4 y5 y6 y7 y8 y9 y10 y11 y12 y13 y14 y15 y16 y17
      unfold interchangelaw16_SeqMany.j2
      repeat' first
      | (with_reducible exact ih0 _ _ _ _ _ _ _)
      | (with_reducible exact ih1 _ _ _ _ _ _ _ _ _ _ _ _ _ _ _ _ _)
      | (with_reducible exact ih2 _ _ _ _ _ _ _ _ _ _ _ _ _ _ _ _ _ _)
      | (with_reducible exact interchangeref15_Nums.mono _ _ _)
      | (with_reducible exact interchangeref16_Right.mono _ _ _ _ _)
      | (with_reducible exact seq_Same.mono _ _ _ _ _ _ _ _ _)
      | (with_reducible exact LeO.refl _)
      | (with_reducible exact LeO.none _)
      | (with_reducible refine LeO.ite ?_ ?_)
      | (with_reducible refine LeO.bind ?_ (fun _ => ?_))
      | exact ih0 _ _ _ _ _ _ _
      | exact ih1 _ _ _ _ _ _ _ _ _ _ _ _ _ _ _ _ _
      | exact ih2 _ _ _ _ _ _ _ _ _ _ _ _ _ _ _ _ _ _
      | exact interchangeref15_Nums.mono _ _ _
      | exact interchangeref16_Right.mono _ _ _ _ _
      | exact seq_Same.mono _ _ _ _ _ _ _ _ _
      | exact LeO.none _
      | refine LeO.ite ?_ ?_
      | refine LeO.bind ?_ (fun _ => ?_)
theorem interchangelaw16_SeqMany.mono : ∀ a0 a1 a2 a3 a4 k, LeO (interchangelaw16_SeqMany.f k a0 a1 a2 a3 a4) (interchangelaw16_SeqMany.f (k + 1) a0 a1 a2 a3 a4) := by
  intro a0 a1 a2 a3 a4 k
  obtain ⟨ih0, ih1, ih2⟩ := interchangelaw16_SeqMany.mono_l k
  unfold interchangelaw16_SeqMany.f
  repeat' first
      | (with_reducible exact ih0 _ _ _ _ _ _ _)
      | (with_reducible exact ih1 _ _ _ _ _ _ _ _ _ _ _ _ _ _ _ _ _)
      | (with_reducible exact ih2 _ _ _ _ _ _ _ _ _ _ _ _ _ _ _ _ _ _)
      | (with_reducible exact interchangeref15_Nums.mono _ _ _)
      | (with_reducible exact interchangeref16_Right.mono _ _ _ _ _)
      | (with_reducible exact seq_Same.mono _ _ _ _ _ _ _ _ _)
      | (with_reducible exact LeO.refl _)
      | (with_reducible exact LeO.none _)
      | (with_reducible refine LeO.ite ?_ ?_)
      | (with_reducible refine LeO.bind ?_ (fun _ => ?_))
      | exact ih0 _ _ _ _ _ _ _
      | exact ih1 _ _ _ _ _ _ _ _ _ _ _ _ _ _ _ _ _
      | exact ih2 _ _ _ _ _ _ _ _ _ _ _ _ _ _ _ _ _ _
      | exact interchangeref15_Nums.mono _ _ _
      | exact interchangeref16_Right.mono _ _ _ _ _
      | exact seq_Same.mono _ _ _ _ _ _ _ _ _
      | exact LeO.none _
      | refine LeO.ite ?_ ?_
      | refine LeO.bind ?_ (fun _ => ?_)
def interchangelaw16_SeqMany.T13 : Bool × List (List Nat × List Nat) := (true, [([], []), ([0], [0]), ([1], [1]), ([2], [2]), ([3, 2], [2, 3]), ([2], [2]), ([4, 5, 2], [2, 4, 5]), ([6, 2], [2, 6]), ([2], [2]), ([8, 2], [2, 8]), ([7, 9, 2], [2, 7, 9]), ([2], [2]), ([10, 11, 2], [2, 10, 11]), ([2, 12], [2, 12])])
def interchangelaw16_SeqMany.B13 : List Nat := [0, 1, 3, 7, 15, 7, 63, 127, 7, 263, 1023, 7, 4095, 8191]
theorem interchangelaw16_SeqMany.tab13 : rtab .any (opsOf Try.f7 13) = interchangelaw16_SeqMany.T13 := by kernel_rfl
theorem interchangelaw16_SeqMany.bits13 : waitsOk interchangelaw16_SeqMany.T13.2 interchangelaw16_SeqMany.B13 = true := by kernel_rfl
def interchangelaw16_SeqMany.T14 : Bool × List (List Nat × List Nat) := (true, [([], []), ([], []), ([1], [1]), ([], []), ([2, 3], [2, 3]), ([4], [4]), ([], []), ([6], [6]), ([5, 7], [5, 7]), ([0, 8], [0, 8]), ([9], [9]), ([10], [10]), ([10], [10]), ([10], [10]), ([], []), ([14, 11, 9, 0, 1, 2, 3, 4, 5, 6, 7, 8, 9, 10, 11, 14], [11, 14]), ([12, 15, 0, 1, 2, 3, 4, 5, 6, 7, 8, 9, 10, 11, 12, 14, 15], [12]), ([13, 16, 0, 1, 2, 3, 4, 5, 6, 7, 8, 9, 10, 11, 12, 13, 14, 15, 16], [13])])
def interchangelaw16_SeqMany.B14 : List Nat := [0, 0, 2, 0, 14, 30, 0, 64, 254, 511, 1023, 2047, 2047, 2047, 0, 20479, 57343, 131071]
theorem interchangelaw16_SeqMany.tab14 : rtab .any (opsOf Try.f7 14) = interchangelaw16_SeqMany.T14 := by kernel_rfl
theorem interchangelaw16_SeqMany.bits14 : waitsOk interchangelaw16_SeqMany.T14.2 interchangelaw16_SeqMany.B14 = true := by kernel_rfl
set_option maxHeartbeats 8000000 in
set_option maxRecDepth 100000 in
theorem interchangelaw16_SeqMany.calls (k : Nat) (a0_0 : Bool) (a0_1 : Int) (a0_2 : Int) (P0_3_ : Nat → Prop) (A0_3 : Option Addr) (c0_3 : Nat) (l0_3 : List Int) (a1 : Int) (r : Bool) (w : World) (hs0_3 : Kd.V (Kd.int .u64) 22 w w.heap.size (fun k_ => P0_3_ k_) (.slice A0_3 l0_3.length c0_3) l0_3) (hT_ : Aside0 (r = true)) (h : interchangelaw16_SeqMany.f k a0_0 a0_1 a0_2 l0_3 a1 = some r) :
    Calls Try.prog 7 #[.agg #[.bool a0_0, .int .u64 a0_1, .int .u64 a0_2, .slice A0_3 l0_3.length c0_3], .int .u64 a1] w fun e w' => e = .returned (.bool r) ∧ Below w.heap.size w w' := by
  have hu26 := Try.underlying26
  have HO0_3 := Aside0.mk (show Kd.V (Kd.int .u64) 22 w w.heap.size (fun k_ => (P0_3_ k_ ∨ w.heap.size ≤ k_)) (.slice A0_3 l0_3.length c0_3) l0_3 from Kd.V_mono hs0_3 (fun k_ hk => .inl hk))
  have HB := Aside0.mk (Below.refl w.heap.size w)
  have H : ((interchangelaw16_shown.f).bind fun t307 => ((interchangeref16_Right.f k a0_0 a0_1 a0_2 l0_3).bind fun t308 => (if t308 = true then (interchangelaw16_SeqMany.j0 k a1 true (decide ((l0_3.length : Int) > 100)) a0_0 a0_1 a0_2 l0_3) else (interchangelaw16_SeqMany.j0 k a1 true true a0_0 a0_1 a0_2 l0_3)))) = some r := h
  clear h
  replace H := Option.bind_eq_some_iff.mp H
  obtain ⟨t307, A30, H⟩ := H
  replace H : ((interchangeref16_Right.f k a0_0 a0_1 a0_2 l0_3).bind fun t308 => (if t308 = true then (interchangelaw16_SeqMany.j0 k a1 true (decide ((l0_3.length : Int) > 100)) a0_0 a0_1 a0_2 l0_3) else (interchangelaw16_SeqMany.j0 k a1 true true a0_0 a0_1 a0_2 l0_3))) = some r := H
  obtain rfl : true = t307 := Option.some.inj (interchangelaw16_shown_true.symm.trans A30)
  have A3 := Aside0.mk A30
  clear A30
  replace H := Option.bind_eq_some_iff.mp H
  obtain ⟨t308, A40, H⟩ := H
  replace H : (if t308 = true then (interchangelaw16_SeqMany.j0 k a1 true (decide ((l0_3.length : Int) > 100)) a0_0 a0_1 a0_2 l0_3) else (interchangelaw16_SeqMany.j0 k a1 true true a0_0 a0_1 a0_2 l0_3)) = some r := H
  have A4 := Aside0.mk A40
  clear A40
  have HC5 := Aside0.mk H
  clear H
  go_enter Try.func7, Try.ntmps7
  go_upto_region 3 with (first | ((with_reducible refine gate_dst (N := 2) rfl ?_); (try (refine gate_guard (by rfl) ?_; dsimp only)); refine box_event ?hg (N := 2) ?hd (cs := #[.bool a0_0, .int .u64 a0_1, .int .u64 a0_2, .slice A0_3 l0_3.length c0_3]) (t := 26) ?hr ?_; (case hd => rfl); (case hg => rfl); (case hr => first | (go_simp; done) | (go_simp; rfl)); intro gb306 hg w6 hbox hb; have n0_ := Aside0.mk (Kd.V_below (Kd.V_elderB (by (with_reducible repeat (first | apply Kd.V_alloc | apply Kd.V_drewN | apply Kd.V_drew)); exact HO0_3.out) gb306 (Nat.le_of_eq hg.symm)) hb); have n1_ := Aside0.mk (below_step (by repeat (first | (with_reducible first | exact HB.out | apply below_alloc | apply pw_below_drewN | apply below_drew1) | exact HB.out)) hb); have n2_ := Aside0.mk (hbox); have n3_ := Aside0.mk ((by rw [hg]; exact (below_size (by repeat (first | (with_reducible first | exact HB.out | apply below_alloc | apply pw_below_drewN | apply below_drew1) | exact HB.out))) : w.heap.size ≤ gb306)); have n4_ := Aside0.mk ((by rw [hg]; exact (below_size (by repeat (first | (with_reducible first | exact HB.out | apply below_alloc | apply pw_below_drewN | apply below_drew1) | exact HB.out))) : w.heap.size ≤ gb306)); clear HO0_3; clear HB; have HO0_3 := n0_; have HB := n1_; have BK306 := n2_; have GW306 := n3_; have GE306 := n4_; clear n0_ n1_ n2_ n3_ n4_; clear hb hbox hg) | ((with_reducible refine gate_callee (f := 9) rfl ?_); refine goesL_ (some 16) rfl rfl Try.func9 (by kernel_rfl) rfl #[] rfl (by (try simp only [List.map_toArray, List.map_cons, List.map_nil]); first | done | rfl | (simp only [List.length_drop, List.length_take]; rfl)) ?_; (with_reducible refine (interchangelaw16_shown.calls true _ ⟨rfl⟩ A3.out).mono ?_); rintro e w7 ⟨rfl, hb⟩; refine ⟨_, rfl, ?_⟩; have n0_ := Aside0.mk (Kd.V_below (by (with_reducible repeat (first | apply Kd.V_alloc | apply Kd.V_drewN | apply Kd.V_drew)); exact HO0_3.out) hb); have n1_ := Aside0.mk (blk_below (g := gb306) (o := .cells #[.bool a0_0, .int .u64 a0_1, .int .u64 a0_2, .slice A0_3 l0_3.length c0_3] 26 (0, 0)) (by (with_reducible repeat (first | refine blk_drewN ?_ _ | refine blk_drew ?_ | refine blk_alloc ?_ _)); exact BK306.out) hb); have n2_ := Aside0.mk (below_step (by repeat (first | (with_reducible first | exact HB.out | apply below_alloc | apply pw_below_drewN | apply below_drew1 | refine below_set ?_ GE306.out) | exact HB.out)) hb); clear HO0_3; clear BK306; clear HB; have HO0_3 := n0_; have BK306 := n1_; have HB := n2_; clear n0_ n1_ n2_; (try clear hb); (try clear hb2); (try clear hk); (try clear hi); have hcz8_0 : w7.cell? ⟨gb306, 0, none⟩ = some (.bool a0_0) := (blk_cell BK306.out 0).trans rfl; have hcz8_1 : w7.cell? ⟨gb306, 1, none⟩ = some (.int .u64 a0_1) := (blk_cell BK306.out 1).trans rfl; have hcz8_2 : w7.cell? ⟨gb306, 2, none⟩ = some (.int .u64 a0_2) := (blk_cell BK306.out 2).trans rfl; have hcz8_3 : w7.cell? ⟨gb306, 3, none⟩ = some (.slice A0_3 l0_3.length c0_3) := (blk_cell BK306.out 3).trans rfl; have hfz8_0 := blk_frozen BK306.out 0; have hfz8_1 := blk_frozen BK306.out 1; have hfz8_2 := blk_frozen BK306.out 2; have hfz8_3 := blk_frozen BK306.out 3) | ((with_reducible refine gate_callee (f := 13) rfl ?_); refine goesL_ (some 18) rfl rfl Try.func13 (by kernel_rfl) rfl #[.agg #[.bool a0_0, .int .u64 a0_1, .int .u64 a0_2, .slice A0_3 l0_3.length c0_3]] rfl (by (try simp only [List.map_toArray, List.map_cons, List.map_nil]); first | done | rfl | (simp only [List.length_drop, List.length_take]; rfl)) ?_; (with_reducible refine (interchangeref16_Right.calls k a0_0 a0_1 a0_2 _ _ l0_3 t308 _ ?side1 ?side2 A4.out).mono ?_); (case side1 => repeat (first | exact (Kd.V_reads' HO0_3.out).2.2 | (with_reducible refine Kd.C_alloc ?_ _) | (with_reducible refine Kd.C_drewN ?_ _) | (with_reducible refine Kd.C_drew ?_))); (case side2 => exact (Kd.V_reads' HO0_3.out).2.1); rintro e w9 ⟨rfl, hb⟩; refine ⟨_, rfl, ?_⟩; have n0_ := Aside0.mk (Kd.V_below (by (with_reducible repeat (first | apply Kd.V_alloc | apply Kd.V_drewN | apply Kd.V_drew)); exact HO0_3.out) hb); have n1_ := Aside0.mk (blk_below (g := gb306) (o := .cells #[.bool a0_0, .int .u64 a0_1, .int .u64 a0_2, .slice A0_3 l0_3.length c0_3] 26 (0, 0)) (by (with_reducible repeat (first | refine blk_drewN ?_ _ | refine blk_drew ?_ | refine blk_alloc ?_ _)); exact BK306.out) hb); have n2_ := Aside0.mk (below_step (by repeat (first | (with_reducible first | exact HB.out | apply below_alloc | apply pw_below_drewN | apply below_drew1 | refine below_set ?_ GE306.out) | exact HB.out)) hb); clear HO0_3; clear BK306; clear HB; have HO0_3 := n0_; have BK306 := n1_; have HB := n2_; clear n0_ n1_ n2_; (try clear hb); (try clear hb2); (try clear hk); (try clear hi)))
  (try simp only [Act.put, List.setIfInBounds_toArray, List.set_cons_zero, List.set_cons_succ])
  go_cut [26] (fun v26 wc => ∃ (kq : Nat) (x26_4 : Bool), v26 = .bool x26_4 ∧ Aside0 (interchangelaw16_SeqMany.j0 kq a1 true x26_4 a0_0 a0_1 a0_2 l0_3 = some r) ∧ Aside0 (kq ≤ k) ∧ Aside0 (Kd.V (Kd.int .u64) 22 wc w.heap.size (fun k_ => (P0_3_ k_ ∨ w.heap.size ≤ k_) ∧ k_ ≠ gb306) (.slice A0_3 l0_3.length c0_3) l0_3) ∧ Aside0 (wc.heap[gb306]? = some (.cells #[.bool a0_0, .int .u64 a0_1, .int .u64 a0_2, (.slice A0_3 l0_3.length c0_3)] 26 (0, 0))) ∧ Aside0 (Below w.heap.size w wc))
  case first =>
    have H := HC5.out
    clear HC5
    by_cases c10 : t308 = true
    · subst c10
      have H1 : (interchangelaw16_SeqMany.j0 k a1 true (decide ((l0_3.length : Int) > 100)) a0_0 a0_1 a0_2 l0_3) = some r := by rw [if_pos rfl] at H; exact H
      clear H
      have H := H1
      clear H1
      have H' := Aside0.mk H
      clear H
      have hcz11_0 : w9.cell? ⟨gb306, 0, none⟩ = some (.bool a0_0) := (blk_cell BK306.out 0).trans rfl
      have hcz11_1 : w9.cell? ⟨gb306, 1, none⟩ = some (.int .u64 a0_1) := (blk_cell BK306.out 1).trans rfl
      have hcz11_2 : w9.cell? ⟨gb306, 2, none⟩ = some (.int .u64 a0_2) := (blk_cell BK306.out 2).trans rfl
      have hcz11_3 : w9.cell? ⟨gb306, 3, none⟩ = some (.slice A0_3 l0_3.length c0_3) := (blk_cell BK306.out 3).trans rfl
      have hfz11_0 := blk_frozen BK306.out 0
      have hfz11_1 := blk_frozen BK306.out 1
      have hfz11_2 := blk_frozen BK306.out 2
      have hfz11_3 := blk_frozen BK306.out 3
      go_wp2
      go_meet
      case rel => exact ⟨_, (decide ((l0_3.length : Int) > 100)), (by first | rfl | (simp; done) | (simp [*]; done)), H', ⟨by first | omega | exact Nat.le_refl _⟩, ⟨by (with_reducible repeat (first | apply Kd.V_alloc | apply Kd.V_drewN | apply Kd.V_drew)); exact HO0_3.out⟩, ⟨by (with_reducible repeat (first | refine blk_drewN ?_ _ | refine blk_drew ?_ | refine blk_alloc ?_ _)); exact BK306.out⟩, ⟨by repeat (first | (with_reducible first | exact HB.out | apply below_alloc | apply pw_below_drewN | apply below_drew1 | refine below_set ?_ GE306.out) | exact HB.out)⟩⟩
    · replace c10 := Bool.eq_false_iff.mpr c10
      subst c10
      have H1 : (interchangelaw16_SeqMany.j0 k a1 true true a0_0 a0_1 a0_2 l0_3) = some r := by rw [if_neg (show ¬ (false = true) by decide)] at H; exact H
      clear H
      have H := H1
      clear H1
      have H' := Aside0.mk H
      clear H
      go_wp2
      go_meet
      case rel => exact ⟨_, (true), (by first | rfl | (simp; done) | (simp [*]; done)), H', ⟨by first | omega | exact Nat.le_refl _⟩, ⟨by (with_reducible repeat (first | apply Kd.V_alloc | apply Kd.V_drewN | apply Kd.V_drew)); exact HO0_3.out⟩, ⟨by (with_reducible repeat (first | refine blk_drewN ?_ _ | refine blk_drew ?_ | refine blk_alloc ?_ _)); exact BK306.out⟩, ⟨by repeat (first | (with_reducible first | exact HB.out | apply below_alloc | apply pw_below_drewN | apply below_drew1 | refine below_set ?_ GE306.out) | exact HB.out)⟩⟩
  case rest =>
    clear HC5
    try clear c1
    try clear p2
    try clear c7
    try clear c9
    try clear c10
    try clear hcz11_0
    try clear hcz11_1
    try clear hcz11_2
    try clear hcz11_3
    try clear hcz8_0
    try clear hcz8_1
    try clear hcz8_2
    try clear hcz8_3
    try clear hfz11_0
    try clear hfz11_1
    try clear hfz11_2
    try clear hfz11_3
    try clear hfz8_0
    try clear hfz8_1
    try clear hfz8_2
    try clear hfz8_3
    obtain ⟨kq, x26_4, rfl, HA, HJ4, HO_307003, BK306, HB⟩ := hcut
    cases kq with
    | zero => exact absurd HA.out (by simp [interchangelaw16_SeqMany.j0])
    | succ kj4 =>
      have H := HA.out
      clear HA
      simp only [interchangelaw16_SeqMany.j0] at H
      by_cases c12 : x26_4 = true
      · subst c12
        have H1 : (some true) = some r := by rw [if_pos rfl] at H; exact H
        clear H
        have H := H1
        clear H1
        obtain rfl := Option.some.inj H
        go_wp2
        go_ret
        exact ⟨by first | rfl | (simp [errW_none, errW_some] <;> rfl) | (simp [*, errW_none, errW_some] <;> rfl) | (exfalso; simp only [decide_eq_true_eq, decide_eq_false_iff_not, beq_iff_eq, bne_iff_ne, ne_eq, beq_eq_false_iff_ne, bne_eq_false_iff_eq] at *; omega), by repeat (first | (with_reducible first | exact HB.out | apply below_alloc | apply pw_below_drewN | apply below_drew1 | refine below_set ?_ GE306.out) | exact HB.out)⟩
      · replace c12 := Bool.eq_false_iff.mpr c12
        subst c12
        have H1 : ((seq_Confirm.f a0_0 a0_1 a0_2 l0_3 a1 true).bind fun bt309 => (if bt309.2.2.2.2.2 = 0 then (interchangelaw16_SeqMany.l0 kj4 a1 true bt309.2.2.2.2.1 ([] : List Int) 0 a0_0 a0_1 a0_2 l0_3 bt309.1 bt309.2.1 bt309.2.2.1 bt309.2.2.2.1 a0_0 a0_1 a0_2 l0_3) else (some true))) = some r := by rw [if_neg (show ¬ (false = true) by decide)] at H; exact H
        clear H
        have H := H1
        clear H1
        replace H := Option.bind_eq_some_iff.mp H
        obtain ⟨⟨t309, t310, t311, t312, t315, t318⟩, A130, H⟩ := H
        replace H : (if t318 = 0 then (interchangelaw16_SeqMany.l0 kj4 a1 true t315 ([] : List Int) 0 a0_0 a0_1 a0_2 l0_3 t309 t310 t311 t312 a0_0 a0_1 a0_2 l0_3) else (some true)) = some r := H
        have A13 := Aside0.mk A130
        clear A130
        by_cases c14 : t318 = 0
        · rw [if_pos c14] at H
          have c14b0 : (t318 == 0) = true := beq_iff_eq.mpr c14
          have c14b1 : (t318 != 0) = false := bne_eq_false_iff_eq.mpr c14
          clear c14
          have H' := Aside0.mk H
          clear H
          have hcz15_0 : wc.cell? ⟨gb306, 0, none⟩ = some (.bool a0_0) := (blk_cell BK306.out 0).trans rfl
          have hcz15_1 : wc.cell? ⟨gb306, 1, none⟩ = some (.int .u64 a0_1) := (blk_cell BK306.out 1).trans rfl
          have hcz15_2 : wc.cell? ⟨gb306, 2, none⟩ = some (.int .u64 a0_2) := (blk_cell BK306.out 2).trans rfl
          have hcz15_3 : wc.cell? ⟨gb306, 3, none⟩ = some (.slice A0_3 l0_3.length c0_3) := (blk_cell BK306.out 3).trans rfl
          have hfz15_0 := blk_frozen BK306.out 0
          have hfz15_1 := blk_frozen BK306.out 1
          have hfz15_2 := blk_frozen BK306.out 2
          have hfz15_3 := blk_frozen BK306.out 3
          go_wp2_with (first | ((with_reducible refine gate_callee (f := 12) rfl ?_); refine goesL_ (some 31) rfl rfl Try.func12 (by kernel_rfl) rfl #[.agg #[.bool a0_0, .int .u64 a0_1, .int .u64 a0_2, .slice A0_3 l0_3.length c0_3], .int .u64 a1, .bool true] rfl (by (try simp only [List.map_toArray, List.map_cons, List.map_nil]); first | done | rfl | (simp only [List.length_drop, List.length_take]; rfl)) ?_; (with_reducible refine (seq_Confirm.calls a0_0 a0_1 a0_2 (fun k_ => ((P0_3_ k_ ∨ w.heap.size ≤ k_) ∧ k_ ≠ gb306)) _ _ l0_3 a1 true t309 t310 t311 t312 t315 t318 _ ?side1 A13.out).mono ?_); (case side1 => exact HO_307003.out); rintro e w16 ⟨v313, v316, rfl, ho0, ho1, hb⟩; refine ⟨_, rfl, ?_⟩; have n0_ := Aside0.mk (Kd.V_elder' (by (with_reducible repeat (first | apply Kd.V_alloc | apply Kd.V_drewN | apply Kd.V_drew)); exact HO_307003.out) (Kd.R_base ho1) hb); have n1_ := Aside0.mk (Kd.V_lower (Kd.V_mono (ok' := fun k_ => (P0_3_ k_ ∨ w.heap.size ≤ k_) ∧ some k_ ≠ (v316 : Value).ownBlock ∧ k_ ≠ gb306) ho0 (fun k_ hk_ => ⟨Or.elim hk_.1 (fun hs_ => hs_.1) (fun hn_ => (.inr (Nat.le_trans (below_size (by repeat (first | (with_reducible first | exact HB.out | apply below_alloc | apply pw_below_drewN | apply below_drew1 | refine below_set ?_ GE306.out) | exact HB.out))) hn_))), hk_.2, Or.elim hk_.1 (fun hs_ => hs_.2) (fun hn_ => (Kd.freshB (g := gb306) (o := .cells #[.bool a0_0, .int .u64 a0_1, .int .u64 a0_2, .slice A0_3 l0_3.length c0_3] 26 (0, 0)) (by (with_reducible repeat (first | refine blk_drewN ?_ _ | refine blk_drew ?_ | refine blk_alloc ?_ _)); exact BK306.out) k_ hn_))⟩)) (below_size (by repeat (first | (with_reducible first | exact HB.out | apply below_alloc | apply pw_below_drewN | apply below_drew1 | refine below_set ?_ GE306.out) | exact HB.out)))); have n2_ := Aside0.mk (Kd.R_lower (Kd.R_newM (M := fun k_ => (w.heap.size ≤ k_)) (Kd.R_mono (ok' := fun k_ => True) ho1 (fun _ hk_ => trivial)) (below_size (by repeat (first | (with_reducible first | exact HB.out | apply below_alloc | apply pw_below_drewN | apply below_drew1 | refine below_set ?_ GE306.out) | exact HB.out))) (fun k_ h_ => h_)) (below_size (by repeat (first | (with_reducible first | exact HB.out | apply below_alloc | apply pw_below_drewN | apply below_drew1 | refine below_set ?_ GE306.out) | exact HB.out)))); have n3_ := Aside0.mk (blk_below (g := gb306) (o := .cells #[.bool a0_0, .int .u64 a0_1, .int .u64 a0_2, .slice A0_3 l0_3.length c0_3] 26 (0, 0)) (by (with_reducible repeat (first | refine blk_drewN ?_ _ | refine blk_drew ?_ | refine blk_alloc ?_ _)); exact BK306.out) hb); have n4_ := Aside0.mk (below_step (by repeat (first | (with_reducible first | exact HB.out | apply below_alloc | apply pw_below_drewN | apply below_drew1 | refine below_set ?_ GE306.out) | exact HB.out)) hb); clear HO_307003; clear BK306; clear HB; have HO_307003 := n0_; have HO314 := n1_; have HO317 := n2_; have BK306 := n3_; have HB := n4_; clear n0_ n1_ n2_ n3_ n4_; (try clear hb); (try clear hb2); (try clear hk); (try clear hi); (try clear ho0); (try clear ho1)) | ((with_reducible refine gate_dst (N := 7) rfl ?_); (try (refine gate_guard (by rfl) ?_; dsimp only)); refine box_event ?hg (N := 7) ?hd (cs := #[.bool false, .int .u64 0, .int .u64 0, .slice none 0 0]) (t := 26) ?hr ?_; (case hd => rfl); (case hg => rfl); (case hr => first | (go_simp; done) | (go_simp; rfl)); intro gb319 hg w17 hbox hb; have n0_ := Aside0.mk (Kd.V_below (Kd.V_elderB (by (with_reducible repeat (first | apply Kd.V_alloc | apply Kd.V_drewN | apply Kd.V_drew)); exact HO_307003.out) gb319 (Nat.le_of_eq hg.symm)) hb); have n1_ := Aside0.mk (Kd.V_below (Kd.V_elderB (by (with_reducible repeat (first | apply Kd.V_alloc | apply Kd.V_drewN | apply Kd.V_drew)); exact HO314.out) gb319 (Nat.le_of_eq hg.symm)) hb); have n2_ := Aside0.mk (Kd.R_below (by (with_reducible repeat (first | apply Kd.R_alloc | apply Kd.R_drewN | apply Kd.R_drew)); exact HO317.out) hb); have n3_ := Aside0.mk (blk_below (g := gb306) (o := .cells #[.bool a0_0, .int .u64 a0_1, .int .u64 a0_2, .slice A0_3 l0_3.length c0_3] 26 (0, 0)) (by (with_reducible repeat (first | refine blk_drewN ?_ _ | refine blk_drew ?_ | refine blk_alloc ?_ _)); exact BK306.out) hb); have n4_ := Aside0.mk (below_step (by repeat (first | (with_reducible first | exact HB.out | apply below_alloc | apply pw_below_drewN | apply below_drew1 | refine below_set ?_ GE306.out) | exact HB.out)) hb); have n5_ := Aside0.mk (hbox); have n6_ := Aside0.mk ((by rw [hg]; exact (below_size (by repeat (first | (with_reducible first | exact HB.out | apply below_alloc | apply pw_below_drewN | apply below_drew1 | refine below_set ?_ GE306.out) | exact HB.out))) : w.heap.size ≤ gb319)); have n7_ := Aside0.mk ((by rw [hg]; exact (below_size (by repeat (first | (with_reducible first | exact HB.out | apply below_alloc | apply pw_below_drewN | apply below_drew1 | refine below_set ?_ GE306.out) | exact HB.out))) : w.heap.size ≤ gb319)); have n8_ := Aside0.mk ((by rw [hg]; exact Nat.ne_of_lt (blk_lt (g := gb306) (o := .cells #[.bool a0_0, .int .u64 a0_1, .int .u64 a0_2, .slice A0_3 l0_3.length c0_3] 26 (0, 0)) (by (with_reducible repeat (first | refine blk_drewN ?_ _ | refine blk_drew ?_ | refine blk_alloc ?_ _)); exact BK306.out)) : gb306 ≠ gb319)); have n9_ := Aside0.mk ((by rw [hg]; exact Nat.ne_of_gt (blk_lt (g := gb306) (o := .cells #[.bool a0_0, .int .u64 a0_1, .int .u64 a0_2, .slice A0_3 l0_3.length c0_3] 26 (0, 0)) (by (with_reducible repeat (first | refine blk_drewN ?_ _ | refine blk_drew ?_ | refine blk_alloc ?_ _)); exact BK306.out)) : gb319 ≠ gb306)); clear HO_307003; clear HO314; clear HO317; clear BK306; clear HB; have HO_307003 := n0_; have HO314 := n1_; have HO317 := n2_; have BK306 := n3_; have HB := n4_; have BK319 := n5_; have GW319 := n6_; have GE319 := n7_; have NB306_319 := n8_; have NB319_306 := n9_; clear n0_ n1_ n2_ n3_ n4_ n5_ n6_ n7_ n8_ n9_; clear hb hbox hg; have hnb18 := NB319_306.out; have hnc18 := NB306_319.out; have hcz19_0 : w17.cell? ⟨gb319, 0, none⟩ = some (.bool false) := (blk_cell BK319.out 0).trans rfl; have hcz19_1 : w17.cell? ⟨gb319, 1, none⟩ = some (.int .u64 0) := (blk_cell BK319.out 1).trans rfl; have hcz19_2 : w17.cell? ⟨gb319, 2, none⟩ = some (.int .u64 0) := (blk_cell BK319.out 2).trans rfl; have hcz19_3 : w17.cell? ⟨gb319, 3, none⟩ = some (.slice none 0 0) := (blk_cell BK319.out 3).trans rfl; have hfz19_0 := blk_frozen BK319.out 0; have hfz19_1 := blk_frozen BK319.out 1; have hfz19_2 := blk_frozen BK319.out 2; have hfz19_3 := blk_frozen BK319.out 3; obtain ⟨Ao20, co20, eo20⟩ := Kd.V_slice HO314.out; subst eo20; have hcz21_0 : w17.cell? ⟨gb306, 0, none⟩ = some (.bool a0_0) := (blk_cell BK306.out 0).trans rfl; have hcz21_1 : w17.cell? ⟨gb306, 1, none⟩ = some (.int .u64 a0_1) := (blk_cell BK306.out 1).trans rfl; have hcz21_2 : w17.cell? ⟨gb306, 2, none⟩ = some (.int .u64 a0_2) := (blk_cell BK306.out 2).trans rfl; have hcz21_3 : w17.cell? ⟨gb306, 3, none⟩ = some (.slice A0_3 l0_3.length c0_3) := (blk_cell BK306.out 3).trans rfl; have hfz21_0 := blk_frozen BK306.out 0; have hfz21_1 := blk_frozen BK306.out 1; have hfz21_2 := blk_frozen BK306.out 2; have hfz21_3 := blk_frozen BK306.out 3) | ((with_reducible refine gate_dst (N := 10) rfl ?_); (try (refine gate_guard (by rfl) ?_; dsimp only)); refine box_event ?hg (N := 10) ?hd (cs := #[.bool false, .int .u64 0, .int .u64 0, .slice none 0 0]) (t := 26) ?hr ?_; (case hd => rfl); (case hg => rfl); (case hr => first | (go_simp; done) | (go_simp; rfl)); intro gb320 hg w22 hbox hb; have n0_ := Aside0.mk (Kd.V_below (Kd.V_elderB (by (with_reducible repeat (first | apply Kd.V_alloc | apply Kd.V_drewN | apply Kd.V_drew)); exact (Kd.V_mono (Kd.V_far (p := ⟨gb319, 3, none⟩) (Kd.V_far (p := ⟨gb319, 2, none⟩) (Kd.V_far (p := ⟨gb319, 1, none⟩) (Kd.V_far (p := ⟨gb319, 0, none⟩) (Kd.V_mono HO_307003.out (fun k_ hk => (⟨hk, hk.2⟩ : _ ∧ k_ ≠ gb319))) (fun _ hk => hk.2) (.bool t309)) (fun _ hk => hk.2) (.int .u64 t310)) (fun _ hk => hk.2) (.int .u64 t311)) (fun _ hk => hk.2) (.slice Ao20 t312.length co20)) (fun _ h_ => h_.1))) gb320 (Nat.le_of_eq hg.symm)) hb); have n1_ := Aside0.mk (Kd.V_below (Kd.V_elderB (by (with_reducible repeat (first | apply Kd.V_alloc | apply Kd.V_drewN | apply Kd.V_drew)); exact (Kd.V_mono (Kd.V_far (p := ⟨gb319, 3, none⟩) (Kd.V_far (p := ⟨gb319, 2, none⟩) (Kd.V_far (p := ⟨gb319, 1, none⟩) (Kd.V_far (p := ⟨gb319, 0, none⟩) (Kd.V_mono HO314.out (fun k_ hk => (⟨hk, hk.2⟩ : _ ∧ k_ ≠ gb319))) (fun _ hk => hk.2) (.bool t309)) (fun _ hk => hk.2) (.int .u64 t310)) (fun _ hk => hk.2) (.int .u64 t311)) (fun _ hk => hk.2) (.slice Ao20 t312.length co20)) (fun _ h_ => h_.1))) gb320 (Nat.le_of_eq hg.symm)) hb); have n2_ := Aside0.mk (Kd.R_below (by (with_reducible repeat (first | apply Kd.R_alloc | apply Kd.R_drewN | apply Kd.R_drew)); exact (Kd.R_mono (Kd.R_far (p := ⟨gb319, 3, none⟩) (Kd.R_far (p := ⟨gb319, 2, none⟩) (Kd.R_far (p := ⟨gb319, 1, none⟩) (Kd.R_far (p := ⟨gb319, 0, none⟩) (Kd.R_types HO317.out BK319.out (by decide)) (fun _ hk => hk.2) (.bool t309)) (fun _ hk => hk.2) (.int .u64 t310)) (fun _ hk => hk.2) (.int .u64 t311)) (fun _ hk => hk.2) (.slice Ao20 t312.length co20)) (fun _ h_ => h_.1))) hb); have n3_ := Aside0.mk (blk_below (g := gb306) (o := .cells #[.bool a0_0, .int .u64 a0_1, .int .u64 a0_2, .slice A0_3 l0_3.length c0_3] 26 (0, 0)) (by (with_reducible repeat (first | refine blk_drewN ?_ _ | refine blk_drew ?_ | refine blk_alloc ?_ _)); refine blk_far ?_ NB306_319.out _; (with_reducible repeat (first | refine blk_drewN ?_ _ | refine blk_drew ?_ | refine blk_alloc ?_ _)); refine blk_far ?_ NB306_319.out _; (with_reducible repeat (first | refine blk_drewN ?_ _ | refine blk_drew ?_ | refine blk_alloc ?_ _)); refine blk_far ?_ NB306_319.out _; (with_reducible repeat (first | refine blk_drewN ?_ _ | refine blk_drew ?_ | refine blk_alloc ?_ _)); refine blk_far ?_ NB306_319.out _; (with_reducible repeat (first | refine blk_drewN ?_ _ | refine blk_drew ?_ | refine blk_alloc ?_ _)); exact BK306.out) hb); have n4_ := Aside0.mk (blk_below (g := gb319) (o := .cells #[.bool t309, .int .u64 t310, .int .u64 t311, .slice Ao20 t312.length co20] 26 (0, 0)) (by (with_reducible repeat (first | refine blk_drewN ?_ _ | refine blk_drew ?_ | refine blk_alloc ?_ _)); refine blk_put (cs := #[.bool t309, .int .u64 t310, .int .u64 t311, .slice none 0 0]) ?_ 3 _ rfl; (with_reducible repeat (first | refine blk_drewN ?_ _ | refine blk_drew ?_ | refine blk_alloc ?_ _)); refine blk_put (cs := #[.bool t309, .int .u64 t310, .int .u64 0, .slice none 0 0]) ?_ 2 _ rfl; (with_reducible repeat (first | refine blk_drewN ?_ _ | refine blk_drew ?_ | refine blk_alloc ?_ _)); refine blk_put (cs := #[.bool t309, .int .u64 0, .int .u64 0, .slice none 0 0]) ?_ 1 _ rfl; (with_reducible repeat (first | refine blk_drewN ?_ _ | refine blk_drew ?_ | refine blk_alloc ?_ _)); refine blk_put (cs := #[.bool false, .int .u64 0, .int .u64 0, .slice none 0 0]) ?_ 0 _ rfl; (with_reducible repeat (first | refine blk_drewN ?_ _ | refine blk_drew ?_ | refine blk_alloc ?_ _)); exact BK319.out) hb); have n5_ := Aside0.mk (below_step (by repeat (first | (with_reducible first | exact HB.out | apply below_alloc | apply pw_below_drewN | apply below_drew1 | refine below_set ?_ GE306.out | refine below_set ?_ GE319.out) | exact HB.out)) hb); have n6_ := Aside0.mk (hbox); have n7_ := Aside0.mk ((by rw [hg]; exact (below_size (by repeat (first | (with_reducible first | exact HB.out | apply below_alloc | apply pw_below_drewN | apply below_drew1 | refine below_set ?_ GE306.out | refine below_set ?_ GE319.out) | exact HB.out))) : w.heap.size ≤ gb320)); have n8_ := Aside0.mk ((by rw [hg]; exact (below_size (by repeat (first | (with_reducible first | exact HB.out | apply below_alloc | apply pw_below_drewN | apply below_drew1 | refine below_set ?_ GE306.out | refine below_set ?_ GE319.out) | exact HB.out))) : w.heap.size ≤ gb320)); have n9_ := Aside0.mk ((by rw [hg]; exact Nat.ne_of_lt (blk_lt (g := gb306) (o := .cells #[.bool a0_0, .int .u64 a0_1, .int .u64 a0_2, .slice A0_3 l0_3.length c0_3] 26 (0, 0)) (by (with_reducible repeat (first | refine blk_drewN ?_ _ | refine blk_drew ?_ | refine blk_alloc ?_ _)); refine blk_far ?_ NB306_319.out _; (with_reducible repeat (first | refine blk_drewN ?_ _ | refine blk_drew ?_ | refine blk_alloc ?_ _)); refine blk_far ?_ NB306_319.out _; (with_reducible repeat (first | refine blk_drewN ?_ _ | refine blk_drew ?_ | refine blk_alloc ?_ _)); refine blk_far ?_ NB306_319.out _; (with_reducible repeat (first | refine blk_drewN ?_ _ | refine blk_drew ?_ | refine blk_alloc ?_ _)); refine blk_far ?_ NB306_319.out _; (with_reducible repeat (first | refine blk_drewN ?_ _ | refine blk_drew ?_ | refine blk_alloc ?_ _)); exact BK306.out)) : gb306 ≠ gb320)); have n10_ := Aside0.mk ((by rw [hg]; exact Nat.ne_of_gt (blk_lt (g := gb306) (o := .cells #[.bool a0_0, .int .u64 a0_1, .int .u64 a0_2, .slice A0_3 l0_3.length c0_3] 26 (0, 0)) (by (with_reducible repeat (first | refine blk_drewN ?_ _ | refine blk_drew ?_ | refine blk_alloc ?_ _)); refine blk_far ?_ NB306_319.out _; (with_reducible repeat (first | refine blk_drewN ?_ _ | refine blk_drew ?_ | refine blk_alloc ?_ _)); refine blk_far ?_ NB306_319.out _; (with_reducible repeat (first | refine blk_drewN ?_ _ | refine blk_drew ?_ | refine blk_alloc ?_ _)); refine blk_far ?_ NB306_319.out _; (with_reducible repeat (first | refine blk_drewN ?_ _ | refine blk_drew ?_ | refine blk_alloc ?_ _)); refine blk_far ?_ NB306_319.out _; (with_reducible repeat (first | refine blk_drewN ?_ _ | refine blk_drew ?_ | refine blk_alloc ?_ _)); exact BK306.out)) : gb320 ≠ gb306)); have n11_ := Aside0.mk ((by rw [hg]; exact Nat.ne_of_lt (blk_lt (g := gb319) (o := .cells #[.bool t309, .int .u64 t310, .int .u64 t311, .slice Ao20 t312.length co20] 26 (0, 0)) (by (with_reducible repeat (first | refine blk_drewN ?_ _ | refine blk_drew ?_ | refine blk_alloc ?_ _)); refine blk_put (cs := #[.bool t309, .int .u64 t310, .int .u64 t311, .slice none 0 0]) ?_ 3 _ rfl; (with_reducible repeat (first | refine blk_drewN ?_ _ | refine blk_drew ?_ | refine blk_alloc ?_ _)); refine blk_put (cs := #[.bool t309, .int .u64 t310, .int .u64 0, .slice none 0 0]) ?_ 2 _ rfl; (with_reducible repeat (first | refine blk_drewN ?_ _ | refine blk_drew ?_ | refine blk_alloc ?_ _)); refine blk_put (cs := #[.bool t309, .int .u64 0, .int .u64 0, .slice none 0 0]) ?_ 1 _ rfl; (with_reducible repeat (first | refine blk_drewN ?_ _ | refine blk_drew ?_ | refine blk_alloc ?_ _)); refine blk_put (cs := #[.bool false, .int .u64 0, .int .u64 0, .slice none 0 0]) ?_ 0 _ rfl; (with_reducible repeat (first | refine blk_drewN ?_ _ | refine blk_drew ?_ | refine blk_alloc ?_ _)); exact BK319.out)) : gb319 ≠ gb320)); have n12_ := Aside0.mk ((by rw [hg]; exact Nat.ne_of_gt (blk_lt (g := gb319) (o := .cells #[.bool t309, .int .u64 t310, .int .u64 t311, .slice Ao20 t312.length co20] 26 (0, 0)) (by (with_reducible repeat (first | refine blk_drewN ?_ _ | refine blk_drew ?_ | refine blk_alloc ?_ _)); refine blk_put (cs := #[.bool t309, .int .u64 t310, .int .u64 t311, .slice none 0 0]) ?_ 3 _ rfl; (with_reducible repeat (first | refine blk_drewN ?_ _ | refine blk_drew ?_ | refine blk_alloc ?_ _)); refine blk_put (cs := #[.bool t309, .int .u64 t310, .int .u64 0, .slice none 0 0]) ?_ 2 _ rfl; (with_reducible repeat (first | refine blk_drewN ?_ _ | refine blk_drew ?_ | refine blk_alloc ?_ _)); refine blk_put (cs := #[.bool t309, .int .u64 0, .int .u64 0, .slice none 0 0]) ?_ 1 _ rfl; (with_reducible repeat (first | refine blk_drewN ?_ _ | refine blk_drew ?_ | refine blk_alloc ?_ _)); refine blk_put (cs := #[.bool false, .int .u64 0, .int .u64 0, .slice none 0 0]) ?_ 0 _ rfl; (with_reducible repeat (first | refine blk_drewN ?_ _ | refine blk_drew ?_ | refine blk_alloc ?_ _)); exact BK319.out)) : gb320 ≠ gb319)); clear HO_307003; clear HO314; clear HO317; clear BK306; clear BK319; clear HB; have HO_307003 := n0_; have HO314 := n1_; have HO317 := n2_; have BK306 := n3_; have BK319 := n4_; have HB := n5_; have BK320 := n6_; have GW320 := n7_; have GE320 := n8_; have NB306_320 := n9_; have NB320_306 := n10_; have NB319_320 := n11_; have NB320_319 := n12_; clear n0_ n1_ n2_ n3_ n4_ n5_ n6_ n7_ n8_ n9_ n10_ n11_ n12_; clear hb hbox hg; have hnb23 := NB320_306.out; have hnc23 := NB306_320.out; have hnb24 := NB320_319.out; have hnc24 := NB319_320.out; have hcz25_0 : w22.cell? ⟨gb320, 0, none⟩ = some (.bool false) := (blk_cell BK320.out 0).trans rfl; have hcz25_1 : w22.cell? ⟨gb320, 1, none⟩ = some (.int .u64 0) := (blk_cell BK320.out 1).trans rfl; have hcz25_2 : w22.cell? ⟨gb320, 2, none⟩ = some (.int .u64 0) := (blk_cell BK320.out 2).trans rfl; have hcz25_3 : w22.cell? ⟨gb320, 3, none⟩ = some (.slice none 0 0) := (blk_cell BK320.out 3).trans rfl; have hfz25_0 := blk_frozen BK320.out 0; have hfz25_1 := blk_frozen BK320.out 1; have hfz25_2 := blk_frozen BK320.out 2; have hfz25_3 := blk_frozen BK320.out 3))
          go_loopg [11, 12] kj4 (fun kq v11 v12 w' => ∃ (x11_2 : List Int) (x12_2 : Int) (x321000_2 : Bool) (x321001_2 : Int) (x321002_2 : Int) (x321003_2 : List Int) (u321003 : Value), v12 = .int .i64 x12_2 ∧ Aside0 (interchangelaw16_SeqMany.l0 kq a1 true t315 x11_2 x12_2 a0_0 a0_1 a0_2 l0_3 t309 t310 t311 t312 x321000_2 x321001_2 x321002_2 x321003_2 = some r) ∧ Aside0 (kq ≤ kj4) ∧ Aside0 (Kd.R (Kd.int .u64) 22 w' w.heap.size (fun k_ => (w.heap.size ≤ k_) ∧ some k_ ≠ (v11 : Value).ownBlock) v316 t315) ∧ Aside0 (Kd.R (Kd.int .u64) 22 w' w.heap.size (fun k_ => (w.heap.size ≤ k_) ∧ some k_ ≠ (v316 : Value).ownBlock) v11 x11_2) ∧ Aside0 (Kd.V (Kd.int .u64) 22 w' w.heap.size (fun k_ => (P0_3_ k_ ∨ w.heap.size ≤ k_) ∧ some k_ ≠ (v316 : Value).ownBlock ∧ some k_ ≠ (v11 : Value).ownBlock ∧ k_ ≠ gb306 ∧ k_ ≠ gb319 ∧ k_ ≠ gb320) (.slice A0_3 l0_3.length c0_3) l0_3) ∧ Aside0 (Kd.V (Kd.int .u64) 22 w' w.heap.size (fun k_ => (P0_3_ k_ ∨ w.heap.size ≤ k_) ∧ some k_ ≠ (v316 : Value).ownBlock ∧ some k_ ≠ (v11 : Value).ownBlock ∧ k_ ≠ gb306 ∧ k_ ≠ gb319 ∧ k_ ≠ gb320) (.slice Ao20 t312.length co20) t312) ∧ Aside0 (Kd.V (Kd.int .u64) 22 w' w.heap.size (fun k_ => (P0_3_ k_ ∨ w.heap.size ≤ k_) ∧ some k_ ≠ (v316 : Value).ownBlock ∧ some k_ ≠ (v11 : Value).ownBlock ∧ k_ ≠ gb306 ∧ k_ ≠ gb319 ∧ k_ ≠ gb320) u321003 x321003_2) ∧ Aside0 (w'.heap[gb306]? = some (.cells #[.bool a0_0, .int .u64 a0_1, .int .u64 a0_2, (.slice A0_3 l0_3.length c0_3)] 26 (0, 0))) ∧ Aside0 (w'.heap[gb319]? = some (.cells #[.bool t309, .int .u64 t310, .int .u64 t311, (.slice Ao20 t312.length co20)] 26 (0, 0))) ∧ Aside0 (w'.heap[gb320]? = some (.cells #[.bool x321000_2, .int .u64 x321001_2, .int .u64 x321002_2, u321003] 26 (0, 0))) ∧ Aside0 (Below w.heap.size w w'))
          case atStart => exact ⟨(([] : List Int)), (0), (a0_0), (a0_1), (a0_2), (l0_3), (.slice A0_3 l0_3.length c0_3), (by first | rfl | (simp; done) | (simp [*]; done)), H', ⟨Nat.le_refl _⟩, ⟨by (with_reducible repeat (first | apply Kd.R_alloc | apply Kd.R_drewN | apply Kd.R_drew)); exact Kd.R_mono (Kd.R_far (p := ⟨gb320, 3, none⟩) (Kd.R_far (p := ⟨gb320, 2, none⟩) (Kd.R_far (p := ⟨gb320, 1, none⟩) (Kd.R_far (p := ⟨gb320, 0, none⟩) (Kd.R_types HO317.out BK320.out (by decide)) (fun _ hk => hk.2) (.bool a0_0)) (fun _ hk => hk.2) (.int .u64 a0_1)) (fun _ hk => hk.2) (.int .u64 a0_2)) (fun _ hk => hk.2) (.slice A0_3 l0_3.length c0_3)) (fun _ hk => ⟨hk.1.1, (by simp [Value.ownBlock])⟩)⟩, ⟨by first | exact Kd.R_nil _ _ _ _ _ | exact Kd.N_nil _ _ _ _ _ | exact Kd.V_nil _ _ _ _ _ | exact Kd.Q_nil _ _ _ _ _ | exact Kd.S_nil _ _ _ _ _⟩, ⟨by (with_reducible repeat (first | apply Kd.V_alloc | apply Kd.V_drewN | apply Kd.V_drew)); exact Kd.V_mono (Kd.V_far (p := ⟨gb320, 3, none⟩) (Kd.V_far (p := ⟨gb320, 2, none⟩) (Kd.V_far (p := ⟨gb320, 1, none⟩) (Kd.V_far (p := ⟨gb320, 0, none⟩) (Kd.V_mono HO_307003.out (fun k_ hk => (⟨hk, hk.2⟩ : _ ∧ k_ ≠ gb320))) (fun _ hk => hk.2) (.bool a0_0)) (fun _ hk => hk.2) (.int .u64 a0_1)) (fun _ hk => hk.2) (.int .u64 a0_2)) (fun _ hk => hk.2) (.slice A0_3 l0_3.length c0_3)) (fun _ hk => ⟨hk.1.1.1.1.1, ⟨hk.1.1.1.2, ⟨(by simp [Value.ownBlock]), ⟨hk.1.1.1.1.2, ⟨hk.1.1.2, hk.1.2⟩⟩⟩⟩⟩)⟩, ⟨by (with_reducible repeat (first | apply Kd.V_alloc | apply Kd.V_drewN | apply Kd.V_drew)); exact Kd.V_mono (Kd.V_far (p := ⟨gb320, 3, none⟩) (Kd.V_far (p := ⟨gb320, 2, none⟩) (Kd.V_far (p := ⟨gb320, 1, none⟩) (Kd.V_far (p := ⟨gb320, 0, none⟩) (Kd.V_mono HO314.out (fun k_ hk => (⟨hk, hk.2⟩ : _ ∧ k_ ≠ gb320))) (fun _ hk => hk.2) (.bool a0_0)) (fun _ hk => hk.2) (.int .u64 a0_1)) (fun _ hk => hk.2) (.int .u64 a0_2)) (fun _ hk => hk.2) (.slice A0_3 l0_3.length c0_3)) (fun _ hk => ⟨hk.1.1.1.1, ⟨hk.1.1.1.2.1, ⟨(by simp [Value.ownBlock]), ⟨hk.1.1.1.2.2, ⟨hk.1.1.2, hk.1.2⟩⟩⟩⟩⟩)⟩, ⟨by (with_reducible repeat (first | apply Kd.V_alloc | apply Kd.V_drewN | apply Kd.V_drew)); exact Kd.V_mono (Kd.V_far (p := ⟨gb320, 3, none⟩) (Kd.V_far (p := ⟨gb320, 2, none⟩) (Kd.V_far (p := ⟨gb320, 1, none⟩) (Kd.V_far (p := ⟨gb320, 0, none⟩) (Kd.V_mono HO_307003.out (fun k_ hk => (⟨hk, hk.2⟩ : _ ∧ k_ ≠ gb320))) (fun _ hk => hk.2) (.bool a0_0)) (fun _ hk => hk.2) (.int .u64 a0_1)) (fun _ hk => hk.2) (.int .u64 a0_2)) (fun _ hk => hk.2) (.slice A0_3 l0_3.length c0_3)) (fun _ hk => ⟨hk.1.1.1.1.1, ⟨hk.1.1.1.2, ⟨(by simp [Value.ownBlock]), ⟨hk.1.1.1.1.2, ⟨hk.1.1.2, hk.1.2⟩⟩⟩⟩⟩)⟩, ⟨by (with_reducible repeat (first | refine blk_drewN ?_ _ | refine blk_drew ?_ | refine blk_alloc ?_ _)); refine blk_far ?_ NB306_320.out _; (with_reducible repeat (first | refine blk_drewN ?_ _ | refine blk_drew ?_ | refine blk_alloc ?_ _)); refine blk_far ?_ NB306_320.out _; (with_reducible repeat (first | refine blk_drewN ?_ _ | refine blk_drew ?_ | refine blk_alloc ?_ _)); refine blk_far ?_ NB306_320.out _; (with_reducible repeat (first | refine blk_drewN ?_ _ | refine blk_drew ?_ | refine blk_alloc ?_ _)); refine blk_far ?_ NB306_320.out _; (with_reducible repeat (first | refine blk_drewN ?_ _ | refine blk_drew ?_ | refine blk_alloc ?_ _)); exact BK306.out⟩, ⟨by (with_reducible repeat (first | refine blk_drewN ?_ _ | refine blk_drew ?_ | refine blk_alloc ?_ _)); refine blk_far ?_ NB319_320.out _; (with_reducible repeat (first | refine blk_drewN ?_ _ | refine blk_drew ?_ | refine blk_alloc ?_ _)); refine blk_far ?_ NB319_320.out _; (with_reducible repeat (first | refine blk_drewN ?_ _ | refine blk_drew ?_ | refine blk_alloc ?_ _)); refine blk_far ?_ NB319_320.out _; (with_reducible repeat (first | refine blk_drewN ?_ _ | refine blk_drew ?_ | refine blk_alloc ?_ _)); refine blk_far ?_ NB319_320.out _; (with_reducible repeat (first | refine blk_drewN ?_ _ | refine blk_drew ?_ | refine blk_alloc ?_ _)); exact BK319.out⟩, ⟨by (with_reducible repeat (first | refine blk_drewN ?_ _ | refine blk_drew ?_ | refine blk_alloc ?_ _)); refine blk_put (cs := #[.bool a0_0, .int .u64 a0_1, .int .u64 a0_2, .slice none 0 0]) ?_ 3 _ rfl; (with_reducible repeat (first | refine blk_drewN ?_ _ | refine blk_drew ?_ | refine blk_alloc ?_ _)); refine blk_put (cs := #[.bool a0_0, .int .u64 a0_1, .int .u64 0, .slice none 0 0]) ?_ 2 _ rfl; (with_reducible repeat (first | refine blk_drewN ?_ _ | refine blk_drew ?_ | refine blk_alloc ?_ _)); refine blk_put (cs := #[.bool a0_0, .int .u64 0, .int .u64 0, .slice none 0 0]) ?_ 1 _ rfl; (with_reducible repeat (first | refine blk_drewN ?_ _ | refine blk_drew ?_ | refine blk_alloc ?_ _)); refine blk_put (cs := #[.bool false, .int .u64 0, .int .u64 0, .slice none 0 0]) ?_ 0 _ rfl; (with_reducible repeat (first | refine blk_drewN ?_ _ | refine blk_drew ?_ | refine blk_alloc ?_ _)); exact BK320.out⟩, ⟨by repeat (first | (with_reducible first | exact HB.out | apply below_alloc | apply pw_below_drewN | apply below_drew1 | refine below_set ?_ GE306.out | refine below_set ?_ GE319.out | refine below_set ?_ GE320.out) | exact HB.out)⟩⟩
          case round =>
            clear H'
            try clear c1
            try clear c2
            try clear p2
            try clear c7
            try clear c9
            try clear c10
            try clear c12
            try clear c13
            try clear c14
            try clear c14b0
            try clear c14b1
            try clear c18
            try clear c23
            try clear c24
            try clear hcz11_0
            try clear hcz11_1
            try clear hcz11_2
            try clear hcz11_3
            try clear hcz15_0
            try clear hcz15_1
            try clear hcz15_2
            try clear hcz15_3
            try clear hcz19_0
            try clear hcz19_1
            try clear hcz19_2
            try clear hcz19_3
            try clear hcz21_0
            try clear hcz21_1
            try clear hcz21_2
            try clear hcz21_3
            try clear hcz25_0
            try clear hcz25_1
            try clear hcz25_2
            try clear hcz25_3
            try clear hcz8_0
            try clear hcz8_1
            try clear hcz8_2
            try clear hcz8_3
            try clear hfz11_0
            try clear hfz11_1
            try clear hfz11_2
            try clear hfz11_3
            try clear hfz15_0
            try clear hfz15_1
            try clear hfz15_2
            try clear hfz15_3
            try clear hfz19_0
            try clear hfz19_1
            try clear hfz19_2
            try clear hfz19_3
            try clear hfz21_0
            try clear hfz21_1
            try clear hfz21_2
            try clear hfz21_3
            try clear hfz25_0
            try clear hfz25_1
            try clear hfz25_2
            try clear hfz25_3
            try clear hfz8_0
            try clear hfz8_1
            try clear hfz8_2
            try clear hfz8_3
            try clear p2
            obtain ⟨x11_2, x12_2, x321000_2, x321001_2, x321002_2, x321003_2, u321003, rfl, HA, HK2, HO_8, HO_11, HO_307003, HO_320003, HO_321003, BK306, BK319, BK320, HB⟩ := hrel
            cases gk with
            | zero => exact absurd HA.out (by simp [interchangelaw16_SeqMany.l0])
            | succ k2 =>
              have H := HA.out
              clear HA
              simp only [interchangelaw16_SeqMany.l0] at H
              by_cases c26 : x12_2 < (l0_3.length : Int)
              · rw [if_pos c26] at H
                have c26b0 : decide (x12_2 < (l0_3.length : Int)) = true := decide_eq_true c26
                clear c26
                have HC27 := Aside0.mk H
                clear H
                have hnb28 := NB306_319.out
                have hnc28 := NB319_306.out
                have hnb29 := NB306_320.out
                have hnc29 := NB320_306.out
                have hcz30_0 : wr.cell? ⟨gb306, 0, none⟩ = some (.bool a0_0) := (blk_cell BK306.out 0).trans rfl
                have hcz30_1 : wr.cell? ⟨gb306, 1, none⟩ = some (.int .u64 a0_1) := (blk_cell BK306.out 1).trans rfl
                have hcz30_2 : wr.cell? ⟨gb306, 2, none⟩ = some (.int .u64 a0_2) := (blk_cell BK306.out 2).trans rfl
                have hcz30_3 : wr.cell? ⟨gb306, 3, none⟩ = some (.slice A0_3 l0_3.length c0_3) := (blk_cell BK306.out 3).trans rfl
                have hfz30_0 := blk_frozen BK306.out 0
                have hfz30_1 := blk_frozen BK306.out 1
                have hfz30_2 := blk_frozen BK306.out 2
                have hfz30_3 := blk_frozen BK306.out 3
                go_upto_region 13 with (fail)
                go_cut [59] (fun v59 wc => ∃ (kq : Nat) (x59_26 : Bool), v59 = .bool x59_26 ∧ Aside0 (interchangelaw16_SeqMany.j2 kq a1 true t315 x11_2 x12_2 x59_26 a0_0 a0_1 a0_2 l0_3 t309 t310 t311 t312 x321000_2 x321001_2 x321002_2 x321003_2 = some r) ∧ Aside0 (kq ≤ k2) ∧ Aside0 (Kd.R (Kd.int .u64) 22 wc w.heap.size (fun k_ => (w.heap.size ≤ k_) ∧ some k_ ≠ (u11 : Value).ownBlock) v316 t315) ∧ Aside0 (Kd.R (Kd.int .u64) 22 wc w.heap.size (fun k_ => (w.heap.size ≤ k_) ∧ some k_ ≠ (v316 : Value).ownBlock) u11 x11_2) ∧ Aside0 (Kd.V (Kd.int .u64) 22 wc w.heap.size (fun k_ => (P0_3_ k_ ∨ w.heap.size ≤ k_) ∧ some k_ ≠ (v316 : Value).ownBlock ∧ some k_ ≠ (u11 : Value).ownBlock ∧ k_ ≠ gb306 ∧ k_ ≠ gb319 ∧ k_ ≠ gb320) (.slice A0_3 l0_3.length c0_3) l0_3) ∧ Aside0 (Kd.V (Kd.int .u64) 22 wc w.heap.size (fun k_ => (P0_3_ k_ ∨ w.heap.size ≤ k_) ∧ some k_ ≠ (v316 : Value).ownBlock ∧ some k_ ≠ (u11 : Value).ownBlock ∧ k_ ≠ gb306 ∧ k_ ≠ gb319 ∧ k_ ≠ gb320) (.slice Ao20 t312.length co20) t312) ∧ Aside0 (Kd.V (Kd.int .u64) 22 wc w.heap.size (fun k_ => (P0_3_ k_ ∨ w.heap.size ≤ k_) ∧ some k_ ≠ (v316 : Value).ownBlock ∧ some k_ ≠ (u11 : Value).ownBlock ∧ k_ ≠ gb306 ∧ k_ ≠ gb319 ∧ k_ ≠ gb320) u321003 x321003_2) ∧ Aside0 (wc.heap[gb306]? = some (.cells #[.bool a0_0, .int .u64 a0_1, .int .u64 a0_2, (.slice A0_3 l0_3.length c0_3)] 26 (0, 0))) ∧ Aside0 (wc.heap[gb319]? = some (.cells #[.bool t309, .int .u64 t310, .int .u64 t311, (.slice Ao20 t312.length co20)] 26 (0, 0))) ∧ Aside0 (wc.heap[gb320]? = some (.cells #[.bool x321000_2, .int .u64 x321001_2, .int .u64 x321002_2, u321003] 26 (0, 0))) ∧ Aside0 (Below w.heap.size w wc))
                case first =>
                  have H := HC27.out
                  clear HC27
                  by_cases c31 : a1 = 0
                  · rw [if_pos c31] at H
                    have c31b0 : (a1 == 0) = true := beq_iff_eq.mpr c31
                    have c31b1 : (a1 != 0) = false := bne_eq_false_iff_eq.mpr c31
                    clear c31
                    (first | rw [c31b0] | (simp only [i64_w, i32_w]; rw [c31b0]) | skip)
                    have H' := Aside0.mk H
                    clear H
                    try go_wp2
                    have n0_ := Aside0.mk (Kd.R_drew HO_8.out)
                    have n1_ := Aside0.mk (Kd.R_drew HO_11.out)
                    have n2_ := Aside0.mk (Kd.V_drew HO_307003.out)
                    have n3_ := Aside0.mk (Kd.V_drew HO_320003.out)
                    have n4_ := Aside0.mk (Kd.V_drew HO_321003.out)
                    have n5_ := Aside0.mk (blk_drew BK306.out)
                    have n6_ := Aside0.mk (blk_drew BK319.out)
                    have n7_ := Aside0.mk (blk_drew BK320.out)
                    have n8_ := Aside0.mk (below_drew1 HB.out)
                    clear HO_8
                    clear HO_11
                    clear HO_307003
                    clear HO_320003
                    clear HO_321003
                    clear BK306
                    clear BK319
                    clear BK320
                    clear HB
                    have HO_8 := n0_
                    have HO_11 := n1_
                    have HO_307003 := n2_
                    have HO_320003 := n3_
                    have HO_321003 := n4_
                    have BK306 := n5_
                    have BK319 := n6_
                    have BK320 := n7_
                    have HB := n8_
                    clear n0_ n1_ n2_ n3_ n4_ n5_ n6_ n7_ n8_
                    refine start_ (n := 14) (S := fun w' => True) (ds := []) #[false, false, false, false, false, false, false, false, false, false, false, false, false, false] (by kernel_rfl) rfl rfl trivial (fun hHeld => ?_); refine with_tabW interchangelaw16_SeqMany.tab13 interchangelaw16_SeqMany.bits13 (fun HT_ HW_ => ?_)
                    generalize wr.drew = w32 at HO_8 HO_11 HO_307003 HO_320003 HO_321003 BK306 BK319 BK320 HB hHeld ⊢
                    refine pure_ (i := 0) (N := some 46) (v := ?_) (a' := ?_) #[true, false, false, false, false, false, false, false, false, false, false, false, false, false] rfl rfl (any_of HT_.out (by kernel_rfl)) (fun _ _ _ h => h) (Or.inl ⟨by rfl, ?_⟩) ?_ ?_
                    rotate_left
                    · intro w'
                      go_simp
                      with_reducible rfl
                    rotate_left
                    · simp only [Act.put, List.setIfInBounds_toArray, List.set_cons_zero, List.set_cons_succ, i64_w, i32_w]
                      rfl
                    refine pure_ (i := 1) (N := some 47) (v := ?_) (a' := ?_) #[true, true, false, false, false, false, false, false, false, false, false, false, false, false] rfl rfl (any_of HT_.out (by kernel_rfl)) (fun _ _ _ h => h) (Or.inl ⟨by rfl, ?_⟩) ?_ ?_
                    rotate_left
                    · intro w'
                      go_simp
                      with_reducible rfl
                    rotate_left
                    · simp only [Act.put, List.setIfInBounds_toArray, List.set_cons_zero, List.set_cons_succ, i64_w, i32_w]
                      rfl
                    refine pure_ (i := 2) (N := some 48) (v := ?_) (a' := ?_) #[true, true, true, false, false, false, false, false, false, false, false, false, false, false] rfl rfl (any_of HT_.out (by kernel_rfl)) (fun _ _ _ h => h) (Or.inl ⟨by rfl, ?_⟩) ?_ ?_
                    rotate_left
                    · intro w'
                      go_simp
                      with_reducible rfl
                    rotate_left
                    · simp only [Act.put, List.setIfInBounds_toArray, List.set_cons_zero, List.set_cons_succ, i64_w, i32_w]
                      rfl
                    refine pure_ (i := 3) (N := some 49) (v := undef) (a' := ?_) #[true, true, true, true, false, false, false, false, false, false, false, false, false, false] rfl rfl (any_of HT_.out (by kernel_rfl)) (fun _ _ _ h => h) (Or.inr ⟨by rfl, rfl⟩) ?_ ?_
                    rotate_left
                    · simp only [Act.put, List.setIfInBounds_toArray, List.set_cons_zero, List.set_cons_succ, i64_w, i32_w]
                      rfl
                    refine pure_ (i := 4) (N := some 50) (v := undef) (a' := ?_) #[true, true, true, true, true, false, false, false, false, false, false, false, false, false] rfl rfl (any_of HT_.out (by kernel_rfl)) (fun _ _ _ h => h) (Or.inr ⟨by rfl, rfl⟩) ?_ ?_
                    rotate_left
                    · simp only [Act.put, List.setIfInBounds_toArray, List.set_cons_zero, List.set_cons_succ, i64_w, i32_w]
                      rfl
                    refine pure_ (i := 5) (N := some 51) (v := undef) (a' := ?_) #[true, true, true, true, true, true, false, false, false, false, false, false, false, false] rfl rfl (any_of HT_.out (by kernel_rfl)) (fun _ _ _ h => h) (Or.inr ⟨by rfl, rfl⟩) ?_ ?_
                    rotate_left
                    · simp only [Act.put, List.setIfInBounds_toArray, List.set_cons_zero, List.set_cons_succ, i64_w, i32_w]
                      rfl
                    refine pure_ (i := 6) (N := some 52) (v := undef) (a' := ?_) #[true, true, true, true, true, true, true, false, false, false, false, false, false, false] rfl rfl (any_of HT_.out (by kernel_rfl)) (fun _ _ _ h => h) (Or.inr ⟨by rfl, rfl⟩) ?_ ?_
                    rotate_left
                    · simp only [Act.put, List.setIfInBounds_toArray, List.set_cons_zero, List.set_cons_succ, i64_w, i32_w]
                      rfl
                    refine pure_ (i := 7) (N := some 53) (v := undef) (a' := ?_) #[true, true, true, true, true, true, true, true, false, false, false, false, false, false] rfl rfl (any_of HT_.out (by kernel_rfl)) (fun _ _ _ h => h) (Or.inr ⟨by rfl, rfl⟩) ?_ ?_
                    rotate_left
                    · simp only [Act.put, List.setIfInBounds_toArray, List.set_cons_zero, List.set_cons_succ, i64_w, i32_w]
                      rfl
                    refine pure_ (i := 8) (N := some 54) (v := undef) (a' := ?_) #[true, true, true, true, true, true, true, true, true, false, false, false, false, false] rfl rfl (any_of HT_.out (by kernel_rfl)) (fun _ _ _ h => h) (Or.inr ⟨by rfl, rfl⟩) ?_ ?_
                    rotate_left
                    · simp only [Act.put, List.setIfInBounds_toArray, List.set_cons_zero, List.set_cons_succ, i64_w, i32_w]
                      rfl
                    refine pure_ (i := 9) (N := some 55) (v := undef) (a' := ?_) #[true, true, true, true, true, true, true, true, true, true, false, false, false, false] rfl rfl (any_of HT_.out (by kernel_rfl)) (fun _ _ _ h => h) (Or.inr ⟨by rfl, rfl⟩) ?_ ?_
                    rotate_left
                    · simp only [Act.put, List.setIfInBounds_toArray, List.set_cons_zero, List.set_cons_succ, i64_w, i32_w]
                      rfl
                    refine pure_ (i := 10) (N := some 56) (v := undef) (a' := ?_) #[true, true, true, true, true, true, true, true, true, true, true, false, false, false] rfl rfl (any_of HT_.out (by kernel_rfl)) (fun _ _ _ h => h) (Or.inr ⟨by rfl, rfl⟩) ?_ ?_
                    rotate_left
                    · simp only [Act.put, List.setIfInBounds_toArray, List.set_cons_zero, List.set_cons_succ, i64_w, i32_w]
                      rfl
                    refine pure_ (i := 11) (N := some 57) (v := undef) (a' := ?_) #[true, true, true, true, true, true, true, true, true, true, true, true, false, false] rfl rfl (any_of HT_.out (by kernel_rfl)) (fun _ _ _ h => h) (Or.inr ⟨by rfl, rfl⟩) ?_ ?_
                    rotate_left
                    · simp only [Act.put, List.setIfInBounds_toArray, List.set_cons_zero, List.set_cons_succ, i64_w, i32_w]
                      rfl
                    refine pure_ (i := 12) (N := some 58) (v := undef) (a' := ?_) #[true, true, true, true, true, true, true, true, true, true, true, true, true, false] rfl rfl (any_of HT_.out (by kernel_rfl)) (fun _ _ _ h => h) (Or.inr ⟨by rfl, rfl⟩) ?_ ?_
                    rotate_left
                    · simp only [Act.put, List.setIfInBounds_toArray, List.set_cons_zero, List.set_cons_succ, i64_w, i32_w]
                      rfl
                    refine pure_ (i := 13) (N := some 59) (v := ?_) (a' := ?_) #[true, true, true, true, true, true, true, true, true, true, true, true, true, true] rfl rfl (any_of HT_.out (by kernel_rfl)) (fun _ _ _ h => h) (Or.inl ⟨by rfl, ?_⟩) ?_ ?_
                    rotate_left
                    · intro w'
                      go_simp
                      with_reducible rfl
                    rotate_left
                    · simp only [Act.put, List.setIfInBounds_toArray, List.set_cons_zero, List.set_cons_succ, i64_w, i32_w]
                      rfl
                    refine done_ (done_of HT_.out (by kernel_rfl)) ?_
                    try go_wp2
                    go_meet
                    case rel => exact ⟨_, (false), (by first | rfl | (simp; done) | (simp [*]; done)), H', ⟨by have := HJ4.out; have := HK2.out; first | omega | exact Nat.le_refl _⟩, ⟨by (with_reducible repeat (first | apply Kd.R_alloc | apply Kd.R_drewN | apply Kd.R_drew)); exact HO_8.out⟩, ⟨by (with_reducible repeat (first | apply Kd.R_alloc | apply Kd.R_drewN | apply Kd.R_drew)); exact HO_11.out⟩, ⟨by (with_reducible repeat (first | apply Kd.V_alloc | apply Kd.V_drewN | apply Kd.V_drew)); exact HO_307003.out⟩, ⟨by (with_reducible repeat (first | apply Kd.V_alloc | apply Kd.V_drewN | apply Kd.V_drew)); exact HO_320003.out⟩, ⟨by (with_reducible repeat (first | apply Kd.V_alloc | apply Kd.V_drewN | apply Kd.V_drew)); exact HO_321003.out⟩, ⟨by (with_reducible repeat (first | refine blk_drewN ?_ _ | refine blk_drew ?_ | refine blk_alloc ?_ _)); exact BK306.out⟩, ⟨by (with_reducible repeat (first | refine blk_drewN ?_ _ | refine blk_drew ?_ | refine blk_alloc ?_ _)); exact BK319.out⟩, ⟨by (with_reducible repeat (first | refine blk_drewN ?_ _ | refine blk_drew ?_ | refine blk_alloc ?_ _)); exact BK320.out⟩, ⟨by repeat (first | (with_reducible first | exact HB.out | apply below_alloc | apply pw_below_drewN | apply below_drew1 | refine below_set ?_ GE306.out | refine below_set ?_ GE319.out | refine below_set ?_ GE320.out) | exact HB.out)⟩⟩
                  · rw [if_neg c31] at H
                    have c31b0 : (a1 == 0) = false := beq_eq_false_iff_ne.mpr c31
                    have c31b1 : (a1 != 0) = true := bne_iff_ne.mpr c31
                    (first | rw [c31b0] | (simp only [i64_w, i32_w]; rw [c31b0]) | skip)
                    by_cases c33 : 0 ≤ x12_2
                    · rw [if_pos c33] at H
                      have c33b0 : decide (0 ≤ x12_2) = true := decide_eq_true c33
                      clear c33
                      have H' := Aside0.mk H
                      clear H
                      try go_wp2
                      have n0_ := Aside0.mk (Kd.R_drew HO_8.out)
                      have n1_ := Aside0.mk (Kd.R_drew HO_11.out)
                      have n2_ := Aside0.mk (Kd.V_drew HO_307003.out)
                      have n3_ := Aside0.mk (Kd.V_drew HO_320003.out)
                      have n4_ := Aside0.mk (Kd.V_drew HO_321003.out)
                      have n5_ := Aside0.mk (blk_drew BK306.out)
                      have n6_ := Aside0.mk (blk_drew BK319.out)
                      have n7_ := Aside0.mk (blk_drew BK320.out)
                      have n8_ := Aside0.mk (below_drew1 HB.out)
                      clear HO_8
                      clear HO_11
                      clear HO_307003
                      clear HO_320003
                      clear HO_321003
                      clear BK306
                      clear BK319
                      clear BK320
                      clear HB
                      have HO_8 := n0_
                      have HO_11 := n1_
                      have HO_307003 := n2_
                      have HO_320003 := n3_
                      have HO_321003 := n4_
                      have BK306 := n5_
                      have BK319 := n6_
                      have BK320 := n7_
                      have HB := n8_
                      clear n0_ n1_ n2_ n3_ n4_ n5_ n6_ n7_ n8_
                      have p323 : 0 ≤ (x12_2 : Int) := of_decide_eq_true (by first | (with_reducible assumption) | assumption)
                      have q323 : x12_2 < (l0_3.length : Int) := of_decide_eq_true (by first | (with_reducible assumption) | assumption)
                      obtain ⟨ad323, e323, hx323_0⟩ := Kd.at_int (Kd.V_reads' HO_307003.out).2.2 x12_2 p323 q323
                      cases e323
                      replace p323 := eq_true p323
                      replace q323 := eq_true q323
                      refine start_ (n := 14) (S := fun w' => w'.cell? ⟨gb306, 0, none⟩ = some (.bool a0_0) ∧ w'.cell? ⟨gb306, 1, none⟩ = some (.int .u64 a0_1) ∧ w'.cell? ⟨gb306, 2, none⟩ = some (.int .u64 a0_2) ∧ w'.cell? ⟨gb306, 3, none⟩ = some (.slice (some ad323) l0_3.length c0_3) ∧ w'.cell? (ad323.add (x12_2).toNat) = some (.int .u64 (rd l0_3 x12_2))) (ds := []) #[false, false, false, false, false, false, false, false, false, false, false, false, false, false] (by kernel_rfl) rfl rfl ⟨(blk_cell BK306.out 0).trans rfl, (blk_cell BK306.out 1).trans rfl, (blk_cell BK306.out 2).trans rfl, (blk_cell BK306.out 3).trans rfl, hx323_0⟩ (fun hHeld => ?_); refine with_tabW interchangelaw16_SeqMany.tab13 interchangelaw16_SeqMany.bits13 (fun HT_ HW_ => ?_)
                      generalize wr.drew = w34 at HO_8 HO_11 HO_307003 HO_320003 HO_321003 BK306 BK319 BK320 HB hx323_0 hHeld ⊢
                      refine pure_ (i := 0) (N := some 46) (v := ?_) (a' := ?_) #[true, false, false, false, false, false, false, false, false, false, false, false, false, false] rfl rfl (any_of HT_.out (by kernel_rfl)) (fun _ _ _ h => h) (Or.inl ⟨by rfl, ?_⟩) ?_ ?_
                      rotate_left
                      · intro w'
                        go_simp
                        with_reducible rfl
                      rotate_left
                      · simp only [Act.put, List.setIfInBounds_toArray, List.set_cons_zero, List.set_cons_succ, i64_w, i32_w]
                        rfl
                      refine pure_ (i := 1) (N := some 47) (v := ?_) (a' := ?_) #[true, true, false, false, false, false, false, false, false, false, false, false, false, false] rfl rfl (any_of HT_.out (by kernel_rfl)) (fun _ _ _ h => h) (Or.inl ⟨by rfl, ?_⟩) ?_ ?_
                      rotate_left
                      · intro w'
                        go_simp
                        with_reducible rfl
                      rotate_left
                      · simp only [Act.put, List.setIfInBounds_toArray, List.set_cons_zero, List.set_cons_succ, i64_w, i32_w]
                        rfl
                      refine pure_ (i := 2) (N := some 48) (v := ?_) (a' := ?_) #[true, true, true, false, false, false, false, false, false, false, false, false, false, false] rfl rfl (any_of HT_.out (by kernel_rfl)) (fun _ _ _ h => h) (Or.inl ⟨by rfl, ?_⟩) ?_ ?_
                      rotate_left
                      · intro w'
                        go_simp
                        with_reducible rfl
                      rotate_left
                      · simp only [Act.put, List.setIfInBounds_toArray, List.set_cons_zero, List.set_cons_succ, i64_w, i32_w]
                        rfl
                      refine pure_ (i := 3) (N := some 49) (v := ?_) (a' := ?_) #[true, true, true, true, false, false, false, false, false, false, false, false, false, false] rfl rfl (any_of HT_.out (by kernel_rfl)) (fun _ _ _ h => h) (Or.inl ⟨by rfl, ?_⟩) ?_ ?_
                      rotate_left
                      · intro w'
                        go_simp
                        with_reducible rfl
                      rotate_left
                      · simp only [Act.put, List.setIfInBounds_toArray, List.set_cons_zero, List.set_cons_succ, i64_w, i32_w]
                        rfl
                      refine pure_ (i := 5) (N := some 51) (v := ?_) (a' := ?_) #[true, true, true, true, false, true, false, false, false, false, false, false, false, false] rfl rfl (any_of HT_.out (by kernel_rfl)) (fun _ _ _ h => h) (Or.inl ⟨by rfl, ?_⟩) ?_ ?_
                      rotate_left
                      · intro w'
                        go_simp
                        with_reducible rfl
                      rotate_left
                      · simp only [Act.put, List.setIfInBounds_toArray, List.set_cons_zero, List.set_cons_succ, i64_w, i32_w]
                        rfl
                      refine pure_ (i := 8) (N := some 54) (v := ?_) (a' := ?_) #[true, true, true, true, false, true, false, false, true, false, false, false, false, false] rfl rfl (any_of HT_.out (by kernel_rfl)) (fun _ _ _ h => h) (Or.inl ⟨by rfl, ?_⟩) ?_ ?_
                      rotate_left
                      · intro w'
                        go_simp
                        with_reducible rfl
                      rotate_left
                      · simp only [Act.put, List.setIfInBounds_toArray, List.set_cons_zero, List.set_cons_succ, i64_w, i32_w]
                        rfl
                      refine pure_ (i := 11) (N := some 57) (v := ?_) (a' := ?_) #[true, true, true, true, false, true, false, false, true, false, false, true, false, false] rfl rfl (any_of HT_.out (by kernel_rfl)) (fun _ _ _ h => h) (Or.inl ⟨by rfl, ?_⟩) ?_ ?_
                      rotate_left
                      · intro w'
                        go_simp
                        with_reducible rfl
                      rotate_left
                      · simp only [Act.put, List.setIfInBounds_toArray, List.set_cons_zero, List.set_cons_succ, i64_w, i32_w]
                        rfl
                      refine take_ (i := 4) (N := some 50) (v := ?_) (a' := ?_) #[true, true, true, true, true, true, false, false, true, false, false, true, false, false] rfl rfl (take_ofW HT_.out HW_.out (by kernel_rfl)) (fun _ _ _ h => h) (Or.inl ⟨by rfl, ?_⟩) hHeld ?_ ?_
                      rotate_left
                      · rintro w' ⟨s0, s1, s2, s3, s4⟩
                        go_simp
                        with_reducible rfl
                      rotate_left
                      · simp only [Act.put, List.setIfInBounds_toArray, List.set_cons_zero, List.set_cons_succ, i64_w, i32_w]
                        rfl
                      refine pure_ (i := 6) (N := some 52) (v := ?_) (a' := ?_) #[true, true, true, true, true, true, true, false, true, false, false, true, false, false] rfl rfl (any_of HT_.out (by kernel_rfl)) (fun _ _ _ h => h) (Or.inl ⟨by rfl, ?_⟩) ?_ ?_
                      rotate_left
                      · intro w'
                        go_simp
                        with_reducible rfl
                      rotate_left
                      · simp only [Act.put, List.setIfInBounds_toArray, List.set_cons_zero, List.set_cons_succ, i64_w, i32_w]
                        rfl
                      refine take_ (i := 7) (N := some 53) (v := ?_) (a' := ?_) #[true, true, true, true, true, true, true, true, true, false, false, true, false, false] rfl rfl (take_ofW HT_.out HW_.out (by kernel_rfl)) (fun _ _ _ h => h) (Or.inl ⟨by rfl, ?_⟩) hHeld ?_ ?_
                      rotate_left
                      · rintro w' ⟨s0, s1, s2, s3, s4⟩
                        go_simp
                        with_reducible rfl
                      rotate_left
                      · simp only [Act.put, List.setIfInBounds_toArray, List.set_cons_zero, List.set_cons_succ, i64_w, i32_w]
                        rfl
                      refine take_ (i := 9) (N := some 55) (v := ?_) (a' := ?_) #[true, true, true, true, true, true, true, true, true, true, false, true, false, false] rfl rfl (take_ofW HT_.out HW_.out (by kernel_rfl)) (fun _ _ _ h => h) (Or.inl ⟨by rfl, ?_⟩) hHeld ?_ ?_
                      rotate_left
                      · rintro w' ⟨s0, s1, s2, s3, s4⟩
                        go_simp
                        with_reducible rfl
                      rotate_left
                      · simp only [Act.put, List.setIfInBounds_toArray, List.set_cons_zero, List.set_cons_succ, i64_w, i32_w]
                        rfl
                      refine pure_ (i := 10) (N := some 56) (v := ?_) (a' := ?_) #[true, true, true, true, true, true, true, true, true, true, true, true, false, false] rfl rfl (any_of HT_.out (by kernel_rfl)) (fun _ _ _ h => h) (Or.inl ⟨by rfl, ?_⟩) ?_ ?_
                      rotate_left
                      · intro w'
                        go_simp
                        with_reducible rfl
                      rotate_left
                      · simp only [Act.put, List.setIfInBounds_toArray, List.set_cons_zero, List.set_cons_succ, i64_w, i32_w]
                        rfl
                      refine pure_ (i := 12) (N := some 58) (v := ?_) (a' := ?_) #[true, true, true, true, true, true, true, true, true, true, true, true, true, false] rfl rfl (any_of HT_.out (by kernel_rfl)) (fun _ _ _ h => h) (Or.inl ⟨by rfl, ?_⟩) ?_ ?_
                      rotate_left
                      · intro w'
                        go_simp
                        with_reducible rfl
                      rotate_left
                      · simp only [Act.put, List.setIfInBounds_toArray, List.set_cons_zero, List.set_cons_succ, i64_w, i32_w]
                        rfl
                      refine pure_ (i := 13) (N := some 59) (v := ?_) (a' := ?_) #[true, true, true, true, true, true, true, true, true, true, true, true, true, true] rfl rfl (any_of HT_.out (by kernel_rfl)) (fun _ _ _ h => h) (Or.inl ⟨by rfl, ?_⟩) ?_ ?_
                      rotate_left
                      · intro w'
                        go_simp
                        with_reducible rfl
                      rotate_left
                      · simp only [Act.put, List.setIfInBounds_toArray, List.set_cons_zero, List.set_cons_succ, i64_w, i32_w]
                        rfl
                      refine done_ (done_of HT_.out (by kernel_rfl)) ?_
                      try go_wp2
                      go_meet
                      case rel => exact ⟨_, (decide ((IntKind.u64.wrap ((rd l0_3 x12_2) + a0_2)) > a1)), (by first | rfl | (simp; done) | (simp [*]; done)), H', ⟨by have := HJ4.out; have := HK2.out; first | omega | exact Nat.le_refl _⟩, ⟨by (with_reducible repeat (first | apply Kd.R_alloc | apply Kd.R_drewN | apply Kd.R_drew)); exact HO_8.out⟩, ⟨by (with_reducible repeat (first | apply Kd.R_alloc | apply Kd.R_drewN | apply Kd.R_drew)); exact HO_11.out⟩, ⟨by (with_reducible repeat (first | apply Kd.V_alloc | apply Kd.V_drewN | apply Kd.V_drew)); exact HO_307003.out⟩, ⟨by (with_reducible repeat (first | apply Kd.V_alloc | apply Kd.V_drewN | apply Kd.V_drew)); exact HO_320003.out⟩, ⟨by (with_reducible repeat (first | apply Kd.V_alloc | apply Kd.V_drewN | apply Kd.V_drew)); exact HO_321003.out⟩, ⟨by (with_reducible repeat (first | refine blk_drewN ?_ _ | refine blk_drew ?_ | refine blk_alloc ?_ _)); exact BK306.out⟩, ⟨by (with_reducible repeat (first | refine blk_drewN ?_ _ | refine blk_drew ?_ | refine blk_alloc ?_ _)); exact BK319.out⟩, ⟨by (with_reducible repeat (first | refine blk_drewN ?_ _ | refine blk_drew ?_ | refine blk_alloc ?_ _)); exact BK320.out⟩, ⟨by repeat (first | (with_reducible first | exact HB.out | apply below_alloc | apply pw_below_drewN | apply below_drew1 | refine below_set ?_ GE306.out | refine below_set ?_ GE319.out | refine below_set ?_ GE320.out) | exact HB.out)⟩⟩
                    · rw [if_neg c33] at H
                      exact absurd H (by simp)
                case rest =>
                  clear HC27
                  try clear c1
                  try clear c2
                  try clear p2
                  try clear c3
                  try clear p3
                  try clear q3
                  try clear hx3
                  try clear c7
                  try clear c9
                  try clear c10
                  try clear c12
                  try clear c13
                  try clear c14
                  try clear c14b0
                  try clear c14b1
                  try clear c18
                  try clear c23
                  try clear c24
                  try clear c26
                  try clear c26b0
                  try clear c28
                  try clear c29
                  try clear c31
                  try clear c31b0
                  try clear c31b1
                  try clear p32
                  try clear q32
                  try clear hx32
                  try clear c33
                  try clear c33b0
                  try clear hcz11_0
                  try clear hcz11_1
                  try clear hcz11_2
                  try clear hcz11_3
                  try clear hcz15_0
                  try clear hcz15_1
                  try clear hcz15_2
                  try clear hcz15_3
                  try clear hcz19_0
                  try clear hcz19_1
                  try clear hcz19_2
                  try clear hcz19_3
                  try clear hcz21_0
                  try clear hcz21_1
                  try clear hcz21_2
                  try clear hcz21_3
                  try clear hcz25_0
                  try clear hcz25_1
                  try clear hcz25_2
                  try clear hcz25_3
                  try clear hcz30_0
                  try clear hcz30_1
                  try clear hcz30_2
                  try clear hcz30_3
                  try clear hcz8_0
                  try clear hcz8_1
                  try clear hcz8_2
                  try clear hcz8_3
                  try clear hfz11_0
                  try clear hfz11_1
                  try clear hfz11_2
                  try clear hfz11_3
                  try clear hfz15_0
                  try clear hfz15_1
                  try clear hfz15_2
                  try clear hfz15_3
                  try clear hfz19_0
                  try clear hfz19_1
                  try clear hfz19_2
                  try clear hfz19_3
                  try clear hfz21_0
                  try clear hfz21_1
                  try clear hfz21_2
                  try clear hfz21_3
                  try clear hfz25_0
                  try clear hfz25_1
                  try clear hfz25_2
                  try clear hfz25_3
                  try clear hfz30_0
                  try clear hfz30_1
                  try clear hfz30_2
                  try clear hfz30_3
                  try clear hfz8_0
                  try clear hfz8_1
                  try clear hfz8_2
                  try clear hfz8_3
                  try clear hx323_0
                  try clear p2
                  try clear p323
                  try clear q323
                  obtain ⟨kq, x59_26, rfl, HA, HJ26, HO_8, HO_11, HO_307003, HO_320003, HO_321003, BK306, BK319, BK320, HB⟩ := hcut
                  cases kq with
                  | zero => exact absurd HA.out (by simp [interchangelaw16_SeqMany.j2])
                  | succ kj26 =>
                    have H := HA.out
                    clear HA
                    simp only [interchangelaw16_SeqMany.j2] at H
                    by_cases c35 : x59_26 = true
                    · subst c35
                      have H1 : (interchangelaw16_SeqMany.l0 kj26 a1 true t315 x11_2 (wrap64 (x12_2 + 1)) a0_0 a0_1 a0_2 l0_3 t309 t310 t311 t312 x321000_2 x321001_2 x321002_2 x321003_2) = some r := by rw [if_pos rfl] at H; exact H
                      clear H
                      have H := H1
                      clear H1
                      have H' := Aside0.mk H
                      clear H
                      go_wp2
                      go_roundg kj26
                      case measure => have := HJ4.out; have := HK2.out; have := HJ26.out; omega
                      case rel => exact ⟨(x11_2), (wrap64 (x12_2 + 1)), (x321000_2), (x321001_2), (x321002_2), (x321003_2), (u321003), (by first | rfl | (simp; done) | (simp [*]; done)), H', ⟨by have := HJ4.out; have := HK2.out; have := HJ26.out; omega⟩, ⟨by (with_reducible repeat (first | apply Kd.R_alloc | apply Kd.R_drewN | apply Kd.R_drew)); exact HO_8.out⟩, ⟨by (with_reducible repeat (first | apply Kd.R_alloc | apply Kd.R_drewN | apply Kd.R_drew)); exact HO_11.out⟩, ⟨by (with_reducible repeat (first | apply Kd.V_alloc | apply Kd.V_drewN | apply Kd.V_drew)); exact HO_307003.out⟩, ⟨by (with_reducible repeat (first | apply Kd.V_alloc | apply Kd.V_drewN | apply Kd.V_drew)); exact HO_320003.out⟩, ⟨by (with_reducible repeat (first | apply Kd.V_alloc | apply Kd.V_drewN | apply Kd.V_drew)); exact HO_321003.out⟩, ⟨by (with_reducible repeat (first | refine blk_drewN ?_ _ | refine blk_drew ?_ | refine blk_alloc ?_ _)); exact BK306.out⟩, ⟨by (with_reducible repeat (first | refine blk_drewN ?_ _ | refine blk_drew ?_ | refine blk_alloc ?_ _)); exact BK319.out⟩, ⟨by (with_reducible repeat (first | refine blk_drewN ?_ _ | refine blk_drew ?_ | refine blk_alloc ?_ _)); exact BK320.out⟩, ⟨by repeat (first | (with_reducible first | exact HB.out | apply below_alloc | apply pw_below_drewN | apply below_drew1 | refine below_set ?_ GE306.out | refine below_set ?_ GE319.out | refine below_set ?_ GE320.out) | exact HB.out)⟩⟩
                    · replace c35 := Bool.eq_false_iff.mpr c35
                      subst c35
                      have H1 : (if 0 ≤ x12_2 then (if x12_2 < (l0_3.length : Int) then ((seq_Confirm.f x321000_2 x321001_2 x321002_2 x321003_2 (IntKind.u64.wrap ((rd l0_3 x12_2) + a0_2)) false).bind fun bt325 => (if bt325.2.2.2.2.2 = 0 then (if x11_2.length + bt325.2.2.2.2.1.length < 17592186044416 then (interchangelaw16_SeqMany.l0 kj26 a1 true t315 (x11_2 ++ bt325.2.2.2.2.1) (wrap64 (x12_2 + 1)) a0_0 a0_1 a0_2 l0_3 t309 t310 t311 t312 bt325.1 bt325.2.1 bt325.2.2.1 bt325.2.2.2.1) else (none)) else (some false))) else (none)) else (none)) = some r := by rw [if_neg (show ¬ (false = true) by decide)] at H; exact H
                      clear H
                      have H := H1
                      clear H1
                      by_cases c36 : 0 ≤ x12_2
                      · rw [if_pos c36] at H
                        have c36b0 : decide (0 ≤ x12_2) = true := decide_eq_true c36
                        clear c36
                        by_cases c37 : x12_2 < (l0_3.length : Int)
                        · rw [if_pos c37] at H
                          have c37b0 : decide (x12_2 < (l0_3.length : Int)) = true := decide_eq_true c37
                          clear c37
                          replace H := Option.bind_eq_some_iff.mp H
                          obtain ⟨⟨t325, t326, t327, t328, t331, t334⟩, A380, H⟩ := H
                          replace H : (if t334 = 0 then (if x11_2.length + t331.length < 17592186044416 then (interchangelaw16_SeqMany.l0 kj26 a1 true t315 (x11_2 ++ t331) (wrap64 (x12_2 + 1)) a0_0 a0_1 a0_2 l0_3 t309 t310 t311 t312 t325 t326 t327 t328) else (none)) else (some false)) = some r := H
                          have A38 := Aside0.mk A380
                          clear A380
                          by_cases c39 : t334 = 0
                          · rw [if_pos c39] at H
                            have c39b0 : (t334 == 0) = true := beq_iff_eq.mpr c39
                            have c39b1 : (t334 != 0) = false := bne_eq_false_iff_eq.mpr c39
                            clear c39
                            by_cases c40 : x11_2.length + t331.length < 17592186044416
                            · rw [if_pos c40] at H
                              have LMc40 := Aside0.mk c40
                              clear c40
                              obtain ⟨y336, hy336⟩ : ∃ y_ : List Int, y_ = (x11_2 ++ t331) := ⟨_, rfl⟩
                              replace H : (interchangelaw16_SeqMany.l0 kj26 a1 true t315 y336 (wrap64 (x12_2 + 1)) a0_0 a0_1 a0_2 l0_3 t309 t310 t311 t312 t325 t326 t327 t328) = some r := by first | (rw [hy336]; with_reducible exact H) | (have H2_ := (Option.bind_some _ _).symm.trans H; rw [hy336]; with_reducible exact H2_) | (have H2_ := (Option.bind_some _ _).symm.trans H; with_reducible exact H2_) | with_reducible exact H | (rw [hy336]; exact H) | exact H
                              have Ny336 := Aside0.mk hy336
                              clear hy336
                              have H' := Aside0.mk H
                              clear H
                              obtain ⟨Ao41, co41, eo41⟩ := Kd.V_slice HO_321003.out
                              subst eo41
                              try go_wp2
                              have n0_ := Aside0.mk (Kd.R_drew HO_8.out)
                              have n1_ := Aside0.mk (Kd.R_drew HO_11.out)
                              have n2_ := Aside0.mk (Kd.V_drew HO_307003.out)
                              have n3_ := Aside0.mk (Kd.V_drew HO_320003.out)
                              have n4_ := Aside0.mk (Kd.V_drew HO_321003.out)
                              have n5_ := Aside0.mk (blk_drew BK306.out)
                              have n6_ := Aside0.mk (blk_drew BK319.out)
                              have n7_ := Aside0.mk (blk_drew BK320.out)
                              have n8_ := Aside0.mk (below_drew1 HB.out)
                              clear HO_8
                              clear HO_11
                              clear HO_307003
                              clear HO_320003
                              clear HO_321003
                              clear BK306
                              clear BK319
                              clear BK320
                              clear HB
                              have HO_8 := n0_
                              have HO_11 := n1_
                              have HO_307003 := n2_
                              have HO_320003 := n3_
                              have HO_321003 := n4_
                              have BK306 := n5_
                              have BK319 := n6_
                              have BK320 := n7_
                              have HB := n8_
                              clear n0_ n1_ n2_ n3_ n4_ n5_ n6_ n7_ n8_
                              have p324 : 0 ≤ (x12_2 : Int) := of_decide_eq_true (by first | (with_reducible assumption) | assumption)
                              have q324 : x12_2 < (l0_3.length : Int) := of_decide_eq_true (by first | (with_reducible assumption) | assumption)
                              obtain ⟨ad324, e324, hx324_0⟩ := Kd.at_int (Kd.V_reads' HO_307003.out).2.2 x12_2 p324 q324
                              cases e324
                              replace p324 := eq_true p324
                              replace q324 := eq_true q324
                              refine start_ (n := 18) (S := fun w' => w'.cell? ⟨gb320, 0, none⟩ = some (.bool x321000_2) ∧ w'.cell? ⟨gb320, 1, none⟩ = some (.int .u64 x321001_2) ∧ w'.cell? ⟨gb320, 2, none⟩ = some (.int .u64 x321002_2) ∧ w'.cell? ⟨gb320, 3, none⟩ = some (.slice Ao41 x321003_2.length co41) ∧ w'.cell? ⟨gb306, 0, none⟩ = some (.bool a0_0) ∧ w'.cell? ⟨gb306, 1, none⟩ = some (.int .u64 a0_1) ∧ w'.cell? ⟨gb306, 2, none⟩ = some (.int .u64 a0_2) ∧ w'.cell? ⟨gb306, 3, none⟩ = some (.slice (some ad324) l0_3.length c0_3) ∧ w'.cell? (ad324.add (x12_2).toNat) = some (.int .u64 (rd l0_3 x12_2))) (ds := []) #[false, false, false, false, false, false, false, false, false, false, false, false, false, false, false, false, false, false] (by kernel_rfl) rfl rfl ⟨(blk_cell BK320.out 0).trans rfl, (blk_cell BK320.out 1).trans rfl, (blk_cell BK320.out 2).trans rfl, (blk_cell BK320.out 3).trans rfl, (blk_cell BK306.out 0).trans rfl, (blk_cell BK306.out 1).trans rfl, (blk_cell BK306.out 2).trans rfl, (blk_cell BK306.out 3).trans rfl, hx324_0⟩ (fun hHeld => ?_); refine with_tabW interchangelaw16_SeqMany.tab14 interchangelaw16_SeqMany.bits14 (fun HT_ HW_ => ?_)
                              generalize wc.drew = w42 at HO_8 HO_11 HO_307003 HO_320003 HO_321003 BK306 BK319 BK320 HB hx324_0 hHeld ⊢
                              refine pure_ (i := 1) (N := some 62) (v := ?_) (a' := ?_) #[false, true, false, false, false, false, false, false, false, false, false, false, false, false, false, false, false, false] rfl rfl (any_of HT_.out (by kernel_rfl)) (fun _ _ _ h => h) (Or.inl ⟨by rfl, ?_⟩) ?_ ?_
                              rotate_left
                              · intro w'
                                go_simp
                                with_reducible rfl
                              rotate_left
                              · simp only [Act.put, List.setIfInBounds_toArray, List.set_cons_zero, List.set_cons_succ, i64_w, i32_w]
                                rfl
                              refine pure_ (i := 3) (N := some 64) (v := ?_) (a' := ?_) #[false, true, false, true, false, false, false, false, false, false, false, false, false, false, false, false, false, false] rfl rfl (any_of HT_.out (by kernel_rfl)) (fun _ _ _ h => h) (Or.inl ⟨by rfl, ?_⟩) ?_ ?_
                              rotate_left
                              · intro w'
                                go_simp
                                with_reducible rfl
                              rotate_left
                              · simp only [Act.put, List.setIfInBounds_toArray, List.set_cons_zero, List.set_cons_succ, i64_w, i32_w]
                                rfl
                              refine pure_ (i := 6) (N := some 67) (v := ?_) (a' := ?_) #[false, true, false, true, false, false, true, false, false, false, false, false, false, false, false, false, false, false] rfl rfl (any_of HT_.out (by kernel_rfl)) (fun _ _ _ h => h) (Or.inl ⟨by rfl, ?_⟩) ?_ ?_
                              rotate_left
                              · intro w'
                                go_simp
                                with_reducible rfl
                              rotate_left
                              · simp only [Act.put, List.setIfInBounds_toArray, List.set_cons_zero, List.set_cons_succ, i64_w, i32_w]
                                rfl
                              refine take_ (i := 0) (N := some 61) (v := ?_) (a' := ?_) #[true, true, false, true, false, false, true, false, false, false, false, false, false, false, false, false, false, false] rfl rfl (take_ofW HT_.out HW_.out (by kernel_rfl)) (fun _ _ _ h => h) (Or.inl ⟨by rfl, ?_⟩) hHeld ?_ ?_
                              rotate_left
                              · rintro w' ⟨s0, s1, s2, s3, s4, s5, s6, s7, s8⟩
                                go_simp
                                with_reducible rfl
                              rotate_left
                              · simp only [Act.put, List.setIfInBounds_toArray, List.set_cons_zero, List.set_cons_succ, i64_w, i32_w]
                                rfl
                              refine take_ (i := 2) (N := some 63) (v := ?_) (a' := ?_) #[true, true, true, true, false, false, true, false, false, false, false, false, false, false, false, false, false, false] rfl rfl (take_ofW HT_.out HW_.out (by kernel_rfl)) (fun _ _ _ h => h) (Or.inl ⟨by rfl, ?_⟩) hHeld ?_ ?_
                              rotate_left
                              · rintro w' ⟨s0, s1, s2, s3, s4, s5, s6, s7, s8⟩
                                go_simp
                                with_reducible rfl
                              rotate_left
                              · simp only [Act.put, List.setIfInBounds_toArray, List.set_cons_zero, List.set_cons_succ, i64_w, i32_w]
                                rfl
                              refine pure_ (i := 4) (N := some 65) (v := ?_) (a' := ?_) #[true, true, true, true, true, false, true, false, false, false, false, false, false, false, false, false, false, false] rfl rfl (any_of HT_.out (by kernel_rfl)) (fun _ _ _ h => h) (Or.inl ⟨by rfl, ?_⟩) ?_ ?_
                              rotate_left
                              · intro w'
                                go_simp
                                with_reducible rfl
                              rotate_left
                              · simp only [Act.put, List.setIfInBounds_toArray, List.set_cons_zero, List.set_cons_succ, i64_w, i32_w]
                                rfl
                              refine take_ (i := 5) (N := some 66) (v := ?_) (a' := ?_) #[true, true, true, true, true, true, true, false, false, false, false, false, false, false, false, false, false, false] rfl rfl (take_ofW HT_.out HW_.out (by kernel_rfl)) (fun _ _ _ h => h) (Or.inl ⟨by rfl, ?_⟩) hHeld ?_ ?_
                              rotate_left
                              · rintro w' ⟨s0, s1, s2, s3, s4, s5, s6, s7, s8⟩
                                go_simp
                                with_reducible rfl
                              rotate_left
                              · simp only [Act.put, List.setIfInBounds_toArray, List.set_cons_zero, List.set_cons_succ, i64_w, i32_w]
                                rfl
                              refine take_ (i := 7) (N := some 68) (v := ?_) (a' := ?_) #[true, true, true, true, true, true, true, true, false, false, false, false, false, false, false, false, false, false] rfl rfl (take_ofW HT_.out HW_.out (by kernel_rfl)) (fun _ _ _ h => h) (Or.inl ⟨by rfl, ?_⟩) hHeld ?_ ?_
                              rotate_left
                              · rintro w' ⟨s0, s1, s2, s3, s4, s5, s6, s7, s8⟩
                                go_simp
                                with_reducible rfl
                              rotate_left
                              · simp only [Act.put, List.setIfInBounds_toArray, List.set_cons_zero, List.set_cons_succ, i64_w, i32_w]
                                rfl
                              refine pure_ (i := 8) (N := some 69) (v := ?_) (a' := ?_) #[true, true, true, true, true, true, true, true, true, false, false, false, false, false, false, false, false, false] rfl rfl (any_of HT_.out (by kernel_rfl)) (fun _ _ _ h => h) (Or.inl ⟨by rfl, ?_⟩) ?_ ?_
                              rotate_left
                              · intro w'
                                go_simp
                                with_reducible rfl
                              rotate_left
                              · simp only [Act.put, List.setIfInBounds_toArray, List.set_cons_zero, List.set_cons_succ, i64_w, i32_w]
                                rfl
                              refine join_ (σ := Value × Value × Nat) 3 #[true, true, true, true, true, true, true, true, true, true, true, true, true, true, true, false, false, false] (fun s_ => [(70, .tuple #[.agg #[.bool t325, .int .u64 t326, .int .u64 t327, s_.1], s_.2.1, .int .i64 t334]), (13, .pointer (some ⟨s_.2.2, 0, none⟩)), (60, .tuple #[.agg #[.bool t325, .int .u64 t326, .int .u64 t327, s_.1], s_.2.1, .int .i64 t334]), (71, .agg #[.bool t325, .int .u64 t326, .int .u64 t327, s_.1]), (72, s_.2.1), (73, .int .i64 t334)]) (fun s_ w' => (w'.cell? ⟨gb320, 0, none⟩ = some (.bool x321000_2) ∧ w'.cell? ⟨gb320, 1, none⟩ = some (.int .u64 x321001_2) ∧ w'.cell? ⟨gb320, 2, none⟩ = some (.int .u64 x321002_2) ∧ w'.cell? ⟨gb320, 3, none⟩ = some (.slice Ao41 x321003_2.length co41) ∧ w'.cell? ⟨gb306, 0, none⟩ = some (.bool a0_0) ∧ w'.cell? ⟨gb306, 1, none⟩ = some (.int .u64 a0_1) ∧ w'.cell? ⟨gb306, 2, none⟩ = some (.int .u64 a0_2) ∧ w'.cell? ⟨gb306, 3, none⟩ = some (.slice (some ad324) l0_3.length c0_3) ∧ w'.cell? (ad324.add (x12_2).toNat) = some (.int .u64 (rd l0_3 x12_2))) ∧ (Kd.V (Kd.int .u64) 22 w' w.heap.size (fun k_ => (P0_3_ k_ ∨ w.heap.size ≤ k_) ∧ some k_ ≠ (s_.2.1 : Value).ownBlock ∧ some k_ ≠ (u11 : Value).ownBlock ∧ some k_ ≠ (v316 : Value).ownBlock ∧ k_ ≠ gb306 ∧ k_ ≠ gb319 ∧ k_ ≠ gb320 ∧ k_ ≠ s_.2.2) s_.1 t328) ∧ (Kd.R (Kd.int .u64) 22 w' w.heap.size (fun k_ => (w.heap.size ≤ k_) ∧ some k_ ≠ (u11 : Value).ownBlock ∧ some k_ ≠ (v316 : Value).ownBlock) s_.2.1 t331) ∧ (Kd.R (Kd.int .u64) 22 w' w.heap.size (fun k_ => (w.heap.size ≤ k_) ∧ some k_ ≠ (s_.2.1 : Value).ownBlock ∧ some k_ ≠ (v316 : Value).ownBlock) u11 x11_2) ∧ (Kd.V (Kd.int .u64) 22 w' w.heap.size (fun k_ => (P0_3_ k_ ∨ w.heap.size ≤ k_) ∧ some k_ ≠ (s_.2.1 : Value).ownBlock ∧ some k_ ≠ (u11 : Value).ownBlock ∧ some k_ ≠ (v316 : Value).ownBlock ∧ k_ ≠ gb306 ∧ k_ ≠ gb319 ∧ k_ ≠ gb320 ∧ k_ ≠ s_.2.2) (.slice (some ad324) l0_3.length c0_3) l0_3) ∧ (Kd.V (Kd.int .u64) 22 w' w.heap.size (fun k_ => (P0_3_ k_ ∨ w.heap.size ≤ k_) ∧ some k_ ≠ (s_.2.1 : Value).ownBlock ∧ some k_ ≠ (u11 : Value).ownBlock ∧ some k_ ≠ (v316 : Value).ownBlock ∧ k_ ≠ gb306 ∧ k_ ≠ gb319 ∧ k_ ≠ gb320 ∧ k_ ≠ s_.2.2) (.slice Ao20 t312.length co20) t312) ∧ (Kd.V (Kd.int .u64) 22 w' w.heap.size (fun k_ => (P0_3_ k_ ∨ w.heap.size ≤ k_) ∧ some k_ ≠ (s_.2.1 : Value).ownBlock ∧ some k_ ≠ (u11 : Value).ownBlock ∧ some k_ ≠ (v316 : Value).ownBlock ∧ k_ ≠ gb306 ∧ k_ ≠ gb319 ∧ k_ ≠ gb320 ∧ k_ ≠ s_.2.2) (.slice Ao41 x321003_2.length co41) x321003_2) ∧ (Kd.R (Kd.int .u64) 22 w' w.heap.size (fun k_ => (w.heap.size ≤ k_) ∧ some k_ ≠ (s_.2.1 : Value).ownBlock ∧ some k_ ≠ (u11 : Value).ownBlock) v316 t315) ∧ (w'.heap[gb306]? = some (.cells #[.bool a0_0, .int .u64 a0_1, .int .u64 a0_2, .slice (some ad324) l0_3.length c0_3] 26 (0, 0))) ∧ (w'.heap[gb319]? = some (.cells #[.bool t309, .int .u64 t310, .int .u64 t311, .slice Ao20 t312.length co20] 26 (0, 0))) ∧ (w'.heap[gb320]? = some (.cells #[.bool x321000_2, .int .u64 x321001_2, .int .u64 x321002_2, .slice Ao41 x321003_2.length co41] 26 (0, 0))) ∧ (w'.heap[s_.2.2]? = some (.cells #[.bool false, .int .u64 0, .int .u64 0, .slice none 0 0] 26 (0, 0))) ∧ (w.heap.size ≤ s_.2.2) ∧ (w.heap.size ≤ s_.2.2) ∧ (gb306 ≠ s_.2.2) ∧ (s_.2.2 ≠ gb306) ∧ (gb319 ≠ s_.2.2) ∧ (s_.2.2 ≠ gb319) ∧ (gb320 ≠ s_.2.2) ∧ (s_.2.2 ≠ gb320) ∧ (Below w.heap.size w w')) ?_ ?_
                              rotate_left
                              · intro hCont
                                refine two_ (i := 9) (j := 14) (Ni := some 70) (Nj := some 13) #[true, true, true, true, true, true, true, true, true, true, false, false, false, false, false, false, false, false] #[true, true, true, true, true, true, true, true, true, false, false, false, false, false, true, false, false, false] rfl rfl rfl rfl (two_of HT_.out (by kernel_rfl)) (by decide) (by decide) (fun K hK => ?_) (fun K hK => ?_)
                                · skip
                                  refine goes_ Try.func12 (by kernel_rfl) rfl #[.agg #[.bool x321000_2, .int .u64 x321001_2, .int .u64 x321002_2, .slice Ao41 x321003_2.length co41], .int .u64 (IntKind.u64.wrap ((rd l0_3 x12_2) + a0_2)), .bool false] (by rfl) rfl rfl (by (try simp only [List.map_toArray, List.map_cons, List.map_nil]); first | done | rfl | (simp only [List.length_drop, List.length_take]; rfl)) ?_
                                  with_reducible refine (seq_Confirm.calls x321000_2 x321001_2 x321002_2 (fun k_ => ((P0_3_ k_ ∨ w.heap.size ≤ k_) ∧ (some k_ ≠ (v316 : Value).ownBlock ∧ (some k_ ≠ (u11 : Value).ownBlock ∧ (k_ ≠ gb306 ∧ (k_ ≠ gb319 ∧ k_ ≠ gb320)))))) _ _ x321003_2 (IntKind.u64.wrap ((rd l0_3 x12_2) + a0_2)) false t325 t326 t327 t328 t331 t334 _ ?side1 A38.out).mono ?_
                                  (case side1 => exact HO_321003.out)
                                  rintro e w43 ⟨v329, v332, rfl, ho0, ho1, hb⟩
                                  have HS8_ := (hb.cell (World.block_lt_of_cell? _ _ (hHeld.2.2.2.2.2.2.2.2))).trans (hHeld.2.2.2.2.2.2.2.2)
                                  refine ⟨_, rfl, ?_⟩
                                  have n0_ := Aside0.mk (Kd.R_elder' (by (with_reducible repeat (first | apply Kd.R_alloc | apply Kd.R_drewN | apply Kd.R_drew)); exact HO_8.out) (Kd.R_base ho1) hb)
                                  have n1_ := Aside0.mk (Kd.R_elder' (by (with_reducible repeat (first | apply Kd.R_alloc | apply Kd.R_drewN | apply Kd.R_drew)); exact HO_11.out) (Kd.R_base ho1) hb)
                                  have n2_ := Aside0.mk (Kd.V_elder' (by (with_reducible repeat (first | apply Kd.V_alloc | apply Kd.V_drewN | apply Kd.V_drew)); exact HO_307003.out) (Kd.R_base ho1) hb)
                                  have n3_ := Aside0.mk (Kd.V_elder' (by (with_reducible repeat (first | apply Kd.V_alloc | apply Kd.V_drewN | apply Kd.V_drew)); exact HO_320003.out) (Kd.R_base ho1) hb)
                                  have n4_ := Aside0.mk (Kd.V_elder' (by (with_reducible repeat (first | apply Kd.V_alloc | apply Kd.V_drewN | apply Kd.V_drew)); exact HO_321003.out) (Kd.R_base ho1) hb)
                                  have n5_ := Aside0.mk (Kd.V_lower (Kd.V_mono (ok' := fun k_ => (P0_3_ k_ ∨ w.heap.size ≤ k_) ∧ some k_ ≠ (v332 : Value).ownBlock ∧ some k_ ≠ (v316 : Value).ownBlock ∧ some k_ ≠ (u11 : Value).ownBlock ∧ k_ ≠ gb306 ∧ k_ ≠ gb319 ∧ k_ ≠ gb320) ho0 (fun k_ hk_ => ⟨Or.elim hk_.1 (fun hs_ => hs_.1) (fun hn_ => (.inr (Nat.le_trans (below_size (by repeat (first | (with_reducible first | exact HB.out | apply below_alloc | apply pw_below_drewN | apply below_drew1 | refine below_set ?_ GE306.out | refine below_set ?_ GE319.out | refine below_set ?_ GE320.out) | exact HB.out))) hn_))), hk_.2, Or.elim hk_.1 (fun hs_ => hs_.2.1) (fun hn_ => (Kd.fresh' (Kd.R_lt (by (with_reducible repeat (first | apply Kd.R_alloc | apply Kd.R_drewN | apply Kd.R_drew)); exact HO_8.out)) k_ hn_)), Or.elim hk_.1 (fun hs_ => hs_.2.2.1) (fun hn_ => (Kd.fresh' (Kd.R_lt (by (with_reducible repeat (first | apply Kd.R_alloc | apply Kd.R_drewN | apply Kd.R_drew)); exact HO_11.out)) k_ hn_)), Or.elim hk_.1 (fun hs_ => hs_.2.2.2.1) (fun hn_ => (Kd.freshB (g := gb306) (o := .cells #[.bool a0_0, .int .u64 a0_1, .int .u64 a0_2, .slice (some ad324) l0_3.length c0_3] 26 (0, 0)) (by (with_reducible repeat (first | refine blk_drewN ?_ _ | refine blk_drew ?_ | refine blk_alloc ?_ _)); exact BK306.out) k_ hn_)), Or.elim hk_.1 (fun hs_ => hs_.2.2.2.2.1) (fun hn_ => (Kd.freshB (g := gb319) (o := .cells #[.bool t309, .int .u64 t310, .int .u64 t311, .slice Ao20 t312.length co20] 26 (0, 0)) (by (with_reducible repeat (first | refine blk_drewN ?_ _ | refine blk_drew ?_ | refine blk_alloc ?_ _)); exact BK319.out) k_ hn_)), Or.elim hk_.1 (fun hs_ => hs_.2.2.2.2.2) (fun hn_ => (Kd.freshB (g := gb320) (o := .cells #[.bool x321000_2, .int .u64 x321001_2, .int .u64 x321002_2, .slice Ao41 x321003_2.length co41] 26 (0, 0)) (by (with_reducible repeat (first | refine blk_drewN ?_ _ | refine blk_drew ?_ | refine blk_alloc ?_ _)); exact BK320.out) k_ hn_))⟩)) (below_size (by repeat (first | (with_reducible first | exact HB.out | apply below_alloc | apply pw_below_drewN | apply below_drew1 | refine below_set ?_ GE306.out | refine below_set ?_ GE319.out | refine below_set ?_ GE320.out) | exact HB.out))))
                                  have n6_ := Aside0.mk (Kd.R_lower (Kd.R_new' (Kd.R_new' (Kd.R_newM (M := fun k_ => (w.heap.size ≤ k_)) (Kd.R_mono (ok' := fun k_ => True) ho1 (fun _ hk_ => trivial)) (below_size (by repeat (first | (with_reducible first | exact HB.out | apply below_alloc | apply pw_below_drewN | apply below_drew1 | refine below_set ?_ GE306.out | refine below_set ?_ GE319.out | refine below_set ?_ GE320.out) | exact HB.out))) (fun k_ h_ => h_)) (Kd.R_lt (by (with_reducible repeat (first | apply Kd.R_alloc | apply Kd.R_drewN | apply Kd.R_drew)); exact HO_8.out))) (Kd.R_lt (by (with_reducible repeat (first | apply Kd.R_alloc | apply Kd.R_drewN | apply Kd.R_drew)); exact HO_11.out))) (below_size (by repeat (first | (with_reducible first | exact HB.out | apply below_alloc | apply pw_below_drewN | apply below_drew1 | refine below_set ?_ GE306.out | refine below_set ?_ GE319.out | refine below_set ?_ GE320.out) | exact HB.out))))
                                  have n7_ := Aside0.mk (blk_below (g := gb306) (o := .cells #[.bool a0_0, .int .u64 a0_1, .int .u64 a0_2, .slice (some ad324) l0_3.length c0_3] 26 (0, 0)) (by (with_reducible repeat (first | refine blk_drewN ?_ _ | refine blk_drew ?_ | refine blk_alloc ?_ _)); exact BK306.out) hb)
                                  have n8_ := Aside0.mk (blk_below (g := gb319) (o := .cells #[.bool t309, .int .u64 t310, .int .u64 t311, .slice Ao20 t312.length co20] 26 (0, 0)) (by (with_reducible repeat (first | refine blk_drewN ?_ _ | refine blk_drew ?_ | refine blk_alloc ?_ _)); exact BK319.out) hb)
                                  have n9_ := Aside0.mk (blk_below (g := gb320) (o := .cells #[.bool x321000_2, .int .u64 x321001_2, .int .u64 x321002_2, .slice Ao41 x321003_2.length co41] 26 (0, 0)) (by (with_reducible repeat (first | refine blk_drewN ?_ _ | refine blk_drew ?_ | refine blk_alloc ?_ _)); exact BK320.out) hb)
                                  have n10_ := Aside0.mk (below_step (by repeat (first | (with_reducible first | exact HB.out | apply below_alloc | apply pw_below_drewN | apply below_drew1 | refine below_set ?_ GE306.out | refine below_set ?_ GE319.out | refine below_set ?_ GE320.out) | exact HB.out)) hb)
                                  clear HO_8
                                  clear HO_11
                                  clear HO_307003
                                  clear HO_320003
                                  clear HO_321003
                                  clear BK306
                                  clear BK319
                                  clear BK320
                                  clear HB
                                  have HO_8 := n0_
                                  have HO_11 := n1_
                                  have HO_307003 := n2_
                                  have HO_320003 := n3_
                                  have HO_321003 := n4_
                                  have HO330 := n5_
                                  have HO333 := n6_
                                  have BK306 := n7_
                                  have BK319 := n8_
                                  have BK320 := n9_
                                  have HB := n10_
                                  clear n0_ n1_ n2_ n3_ n4_ n5_ n6_ n7_ n8_ n9_ n10_
                                  (try clear hb)
                                  (try clear hb2)
                                  (try clear hk)
                                  (try clear hi)
                                  (try clear ho0)
                                  (try clear ho1)
                                  refine hK.out _ _ ⟨(blk_cell BK320.out 0).trans rfl, (blk_cell BK320.out 1).trans rfl, (blk_cell BK320.out 2).trans rfl, (blk_cell BK320.out 3).trans rfl, (blk_cell BK306.out 0).trans rfl, (blk_cell BK306.out 1).trans rfl, (blk_cell BK306.out 2).trans rfl, (blk_cell BK306.out 3).trans rfl, HS8_⟩ (fun hHeld => ?_)
                                  clear hK K
                                  refine norm_ (a' := ?_) ?_ ?_
                                  rotate_left
                                  · show Act.put _ (some 70) _ = _
                                    simp only [Act.put, List.setIfInBounds_toArray, List.set_cons_zero, List.set_cons_succ, i64_w, i32_w]
                                    rfl
                                  refine pure_ (i := 10) (N := some 60) (v := ?_) (a' := ?_) #[true, true, true, true, true, true, true, true, true, true, true, false, false, false, false, false, false, false] rfl rfl (any_of HT_.out (by kernel_rfl)) (fun _ _ _ h => h) (Or.inl ⟨by rfl, ?_⟩) ?_ ?_
                                  rotate_left
                                  · intro w'
                                    go_simp
                                    with_reducible rfl
                                  rotate_left
                                  · simp only [Act.put, List.setIfInBounds_toArray, List.set_cons_zero, List.set_cons_succ, i64_w, i32_w]
                                    rfl
                                  refine pure_ (i := 11) (N := some 71) (v := ?_) (a' := ?_) #[true, true, true, true, true, true, true, true, true, true, true, true, false, false, false, false, false, false] rfl rfl (any_of HT_.out (by kernel_rfl)) (fun _ _ _ h => h) (Or.inl ⟨by rfl, ?_⟩) ?_ ?_
                                  rotate_left
                                  · intro w'
                                    go_simp
                                    with_reducible rfl
                                  rotate_left
                                  · simp only [Act.put, List.setIfInBounds_toArray, List.set_cons_zero, List.set_cons_succ, i64_w, i32_w]
                                    rfl
                                  refine pure_ (i := 12) (N := some 72) (v := ?_) (a' := ?_) #[true, true, true, true, true, true, true, true, true, true, true, true, true, false, false, false, false, false] rfl rfl (any_of HT_.out (by kernel_rfl)) (fun _ _ _ h => h) (Or.inl ⟨by rfl, ?_⟩) ?_ ?_
                                  rotate_left
                                  · intro w'
                                    go_simp
                                    with_reducible rfl
                                  rotate_left
                                  · simp only [Act.put, List.setIfInBounds_toArray, List.set_cons_zero, List.set_cons_succ, i64_w, i32_w]
                                    rfl
                                  refine pure_ (i := 13) (N := some 73) (v := ?_) (a' := ?_) #[true, true, true, true, true, true, true, true, true, true, true, true, true, true, false, false, false, false] rfl rfl (any_of HT_.out (by kernel_rfl)) (fun _ _ _ h => h) (Or.inl ⟨by rfl, ?_⟩) ?_ ?_
                                  rotate_left
                                  · intro w'
                                    go_simp
                                    with_reducible rfl
                                  rotate_left
                                  · simp only [Act.put, List.setIfInBounds_toArray, List.set_cons_zero, List.set_cons_succ, i64_w, i32_w]
                                    rfl
                                  refine one_ (i := 14) (N := some 13) #[true, true, true, true, true, true, true, true, true, true, true, true, true, true, true, false, false, false] rfl rfl (one_of HT_.out (by kernel_rfl)) (by decide) (fun K hK => ?_)
                                  refine box_step ?hg (N := 13) ?hd (cs := #[.bool false, .int .u64 0, .int .u64 0, .slice none 0 0]) (t := 26) ?hr ?_; (case hd => rfl); (case hg => rfl); (case hr => first | (go_simp; done) | (go_simp; rfl))
                                  intro gb335 hg w44 hbox hb
                                  have HS8_ := (hb.cell (World.block_lt_of_cell? _ _ (hHeld.2.2.2.2.2.2.2.2))).trans (hHeld.2.2.2.2.2.2.2.2)
                                  have n0_ := Aside0.mk (Kd.R_below (by (with_reducible repeat (first | apply Kd.R_alloc | apply Kd.R_drewN | apply Kd.R_drew)); exact HO_8.out) hb)
                                  have n1_ := Aside0.mk (Kd.R_below (by (with_reducible repeat (first | apply Kd.R_alloc | apply Kd.R_drewN | apply Kd.R_drew)); exact HO_11.out) hb)
                                  have n2_ := Aside0.mk (Kd.V_below (Kd.V_elderB (by (with_reducible repeat (first | apply Kd.V_alloc | apply Kd.V_drewN | apply Kd.V_drew)); exact HO_307003.out) gb335 (Nat.le_of_eq hg.symm)) hb)
                                  have n3_ := Aside0.mk (Kd.V_below (Kd.V_elderB (by (with_reducible repeat (first | apply Kd.V_alloc | apply Kd.V_drewN | apply Kd.V_drew)); exact HO_320003.out) gb335 (Nat.le_of_eq hg.symm)) hb)
                                  have n4_ := Aside0.mk (Kd.V_below (Kd.V_elderB (by (with_reducible repeat (first | apply Kd.V_alloc | apply Kd.V_drewN | apply Kd.V_drew)); exact HO_321003.out) gb335 (Nat.le_of_eq hg.symm)) hb)
                                  have n5_ := Aside0.mk (Kd.V_below (Kd.V_elderB (by (with_reducible repeat (first | apply Kd.V_alloc | apply Kd.V_drewN | apply Kd.V_drew)); exact HO330.out) gb335 (Nat.le_of_eq hg.symm)) hb)
                                  have n6_ := Aside0.mk (Kd.R_below (by (with_reducible repeat (first | apply Kd.R_alloc | apply Kd.R_drewN | apply Kd.R_drew)); exact HO333.out) hb)
                                  have n7_ := Aside0.mk (blk_below (g := gb306) (o := .cells #[.bool a0_0, .int .u64 a0_1, .int .u64 a0_2, .slice (some ad324) l0_3.length c0_3] 26 (0, 0)) (by (with_reducible repeat (first | refine blk_drewN ?_ _ | refine blk_drew ?_ | refine blk_alloc ?_ _)); exact BK306.out) hb)
                                  have n8_ := Aside0.mk (blk_below (g := gb319) (o := .cells #[.bool t309, .int .u64 t310, .int .u64 t311, .slice Ao20 t312.length co20] 26 (0, 0)) (by (with_reducible repeat (first | refine blk_drewN ?_ _ | refine blk_drew ?_ | refine blk_alloc ?_ _)); exact BK319.out) hb)
                                  have n9_ := Aside0.mk (blk_below (g := gb320) (o := .cells #[.bool x321000_2, .int .u64 x321001_2, .int .u64 x321002_2, .slice Ao41 x321003_2.length co41] 26 (0, 0)) (by (with_reducible repeat (first | refine blk_drewN ?_ _ | refine blk_drew ?_ | refine blk_alloc ?_ _)); exact BK320.out) hb)
                                  have n10_ := Aside0.mk (below_step (by repeat (first | (with_reducible first | exact HB.out | apply below_alloc | apply pw_below_drewN | apply below_drew1 | refine below_set ?_ GE306.out | refine below_set ?_ GE319.out | refine below_set ?_ GE320.out) | exact HB.out)) hb)
                                  have n11_ := Aside0.mk (hbox)
                                  have n12_ := Aside0.mk ((by rw [hg]; exact (below_size (by repeat (first | (with_reducible first | exact HB.out | apply below_alloc | apply pw_below_drewN | apply below_drew1 | refine below_set ?_ GE306.out | refine below_set ?_ GE319.out | refine below_set ?_ GE320.out) | exact HB.out))) : w.heap.size ≤ gb335))
                                  have n13_ := Aside0.mk ((by rw [hg]; exact (below_size (by repeat (first | (with_reducible first | exact HB.out | apply below_alloc | apply pw_below_drewN | apply below_drew1 | refine below_set ?_ GE306.out | refine below_set ?_ GE319.out | refine below_set ?_ GE320.out) | exact HB.out))) : w.heap.size ≤ gb335))
                                  have n14_ := Aside0.mk ((by rw [hg]; exact Nat.ne_of_lt (blk_lt (g := gb306) (o := .cells #[.bool a0_0, .int .u64 a0_1, .int .u64 a0_2, .slice (some ad324) l0_3.length c0_3] 26 (0, 0)) (by (with_reducible repeat (first | refine blk_drewN ?_ _ | refine blk_drew ?_ | refine blk_alloc ?_ _)); exact BK306.out)) : gb306 ≠ gb335))
                                  have n15_ := Aside0.mk ((by rw [hg]; exact Nat.ne_of_gt (blk_lt (g := gb306) (o := .cells #[.bool a0_0, .int .u64 a0_1, .int .u64 a0_2, .slice (some ad324) l0_3.length c0_3] 26 (0, 0)) (by (with_reducible repeat (first | refine blk_drewN ?_ _ | refine blk_drew ?_ | refine blk_alloc ?_ _)); exact BK306.out)) : gb335 ≠ gb306))
                                  have n16_ := Aside0.mk ((by rw [hg]; exact Nat.ne_of_lt (blk_lt (g := gb319) (o := .cells #[.bool t309, .int .u64 t310, .int .u64 t311, .slice Ao20 t312.length co20] 26 (0, 0)) (by (with_reducible repeat (first | refine blk_drewN ?_ _ | refine blk_drew ?_ | refine blk_alloc ?_ _)); exact BK319.out)) : gb319 ≠ gb335))
                                  have n17_ := Aside0.mk ((by rw [hg]; exact Nat.ne_of_gt (blk_lt (g := gb319) (o := .cells #[.bool t309, .int .u64 t310, .int .u64 t311, .slice Ao20 t312.length co20] 26 (0, 0)) (by (with_reducible repeat (first | refine blk_drewN ?_ _ | refine blk_drew ?_ | refine blk_alloc ?_ _)); exact BK319.out)) : gb335 ≠ gb319))
                                  have n18_ := Aside0.mk ((by rw [hg]; exact Nat.ne_of_lt (blk_lt (g := gb320) (o := .cells #[.bool x321000_2, .int .u64 x321001_2, .int .u64 x321002_2, .slice Ao41 x321003_2.length co41] 26 (0, 0)) (by (with_reducible repeat (first | refine blk_drewN ?_ _ | refine blk_drew ?_ | refine blk_alloc ?_ _)); exact BK320.out)) : gb320 ≠ gb335))
                                  have n19_ := Aside0.mk ((by rw [hg]; exact Nat.ne_of_gt (blk_lt (g := gb320) (o := .cells #[.bool x321000_2, .int .u64 x321001_2, .int .u64 x321002_2, .slice Ao41 x321003_2.length co41] 26 (0, 0)) (by (with_reducible repeat (first | refine blk_drewN ?_ _ | refine blk_drew ?_ | refine blk_alloc ?_ _)); exact BK320.out)) : gb335 ≠ gb320))
                                  clear HO_8
                                  clear HO_11
                                  clear HO_307003
                                  clear HO_320003
                                  clear HO_321003
                                  clear HO330
                                  clear HO333
                                  clear BK306
                                  clear BK319
                                  clear BK320
                                  clear HB
                                  have HO_8 := n0_
                                  have HO_11 := n1_
                                  have HO_307003 := n2_
                                  have HO_320003 := n3_
                                  have HO_321003 := n4_
                                  have HO330 := n5_
                                  have HO333 := n6_
                                  have BK306 := n7_
                                  have BK319 := n8_
                                  have BK320 := n9_
                                  have HB := n10_
                                  have BK335 := n11_
                                  have GW335 := n12_
                                  have GE335 := n13_
                                  have NB306_335 := n14_
                                  have NB335_306 := n15_
                                  have NB319_335 := n16_
                                  have NB335_319 := n17_
                                  have NB320_335 := n18_
                                  have NB335_320 := n19_
                                  clear n0_ n1_ n2_ n3_ n4_ n5_ n6_ n7_ n8_ n9_ n10_ n11_ n12_ n13_ n14_ n15_ n16_ n17_ n18_ n19_
                                  clear hb hbox hg
                                  refine hK.out _ _ ⟨(blk_cell BK320.out 0).trans rfl, (blk_cell BK320.out 1).trans rfl, (blk_cell BK320.out 2).trans rfl, (blk_cell BK320.out 3).trans rfl, (blk_cell BK306.out 0).trans rfl, (blk_cell BK306.out 1).trans rfl, (blk_cell BK306.out 2).trans rfl, (blk_cell BK306.out 3).trans rfl, HS8_⟩ (fun hHeld => ?_)
                                  clear hK K
                                  refine norm_ (a' := ?_) ?_ ?_
                                  rotate_left
                                  · show Act.put _ (some 13) _ = _
                                    simp only [Act.put, List.setIfInBounds_toArray, List.set_cons_zero, List.set_cons_succ, i64_w, i32_w]
                                    rfl
                                  exact norm_ (by simp only [putAll, Act.put, List.setIfInBounds_toArray, List.set_cons_zero, List.set_cons_succ]) (hCont (v329, v332, gb335) _ ⟨hHeld, (by (with_reducible repeat (first | apply Kd.V_alloc | apply Kd.V_drewN | apply Kd.V_drew)); exact Kd.V_mono HO330.out (fun _ hk => ⟨hk.1.1, ⟨hk.1.2.1, ⟨hk.1.2.2.2.1, ⟨hk.1.2.2.1, ⟨hk.1.2.2.2.2.1, ⟨hk.1.2.2.2.2.2.1, ⟨hk.1.2.2.2.2.2.2, hk.2⟩⟩⟩⟩⟩⟩⟩)), (by (with_reducible repeat (first | apply Kd.R_alloc | apply Kd.R_drewN | apply Kd.R_drew)); exact Kd.R_mono HO333.out (fun _ hk => ⟨hk.1.1.1, ⟨hk.2, hk.1.2⟩⟩)), (by (with_reducible repeat (first | apply Kd.R_alloc | apply Kd.R_drewN | apply Kd.R_drew)); exact Kd.R_mono HO_11.out (fun _ hk => ⟨hk.1.1, ⟨hk.2, hk.1.2⟩⟩)), (by (with_reducible repeat (first | apply Kd.V_alloc | apply Kd.V_drewN | apply Kd.V_drew)); exact Kd.V_mono HO_307003.out (fun _ hk => ⟨hk.1.1.1, ⟨hk.1.2, ⟨hk.1.1.2.2.1, ⟨hk.1.1.2.1, ⟨hk.1.1.2.2.2.1, ⟨hk.1.1.2.2.2.2.1, ⟨hk.1.1.2.2.2.2.2, hk.2⟩⟩⟩⟩⟩⟩⟩)), (by (with_reducible repeat (first | apply Kd.V_alloc | apply Kd.V_drewN | apply Kd.V_drew)); exact Kd.V_mono HO_320003.out (fun _ hk => ⟨hk.1.1.1, ⟨hk.1.2, ⟨hk.1.1.2.2.1, ⟨hk.1.1.2.1, ⟨hk.1.1.2.2.2.1, ⟨hk.1.1.2.2.2.2.1, ⟨hk.1.1.2.2.2.2.2, hk.2⟩⟩⟩⟩⟩⟩⟩)), (by (with_reducible repeat (first | apply Kd.V_alloc | apply Kd.V_drewN | apply Kd.V_drew)); exact Kd.V_mono HO_321003.out (fun _ hk => ⟨hk.1.1.1, ⟨hk.1.2, ⟨hk.1.1.2.2.1, ⟨hk.1.1.2.1, ⟨hk.1.1.2.2.2.1, ⟨hk.1.1.2.2.2.2.1, ⟨hk.1.1.2.2.2.2.2, hk.2⟩⟩⟩⟩⟩⟩⟩)), (by (with_reducible repeat (first | apply Kd.R_alloc | apply Kd.R_drewN | apply Kd.R_drew)); exact Kd.R_mono HO_8.out (fun _ hk => ⟨hk.1.1, ⟨hk.2, hk.1.2⟩⟩)), (by (with_reducible repeat (first | refine blk_drewN ?_ _ | refine blk_drew ?_ | refine blk_alloc ?_ _)); exact BK306.out), (by (with_reducible repeat (first | refine blk_drewN ?_ _ | refine blk_drew ?_ | refine blk_alloc ?_ _)); exact BK319.out), (by (with_reducible repeat (first | refine blk_drewN ?_ _ | refine blk_drew ?_ | refine blk_alloc ?_ _)); exact BK320.out), (by (with_reducible repeat (first | refine blk_drewN ?_ _ | refine blk_drew ?_ | refine blk_alloc ?_ _)); exact BK335.out), GW335.out, GE335.out, NB306_335.out, NB335_306.out, NB319_335.out, NB335_319.out, NB320_335.out, NB335_320.out, (by repeat (first | (with_reducible first | exact HB.out | apply below_alloc | apply pw_below_drewN | apply below_drew1 | refine below_set ?_ GE306.out | refine below_set ?_ GE319.out | refine below_set ?_ GE320.out | refine below_set ?_ GE335.out) | exact HB.out))⟩)
                                · skip
                                  refine box_step ?hg (N := 13) ?hd (cs := #[.bool false, .int .u64 0, .int .u64 0, .slice none 0 0]) (t := 26) ?hr ?_; (case hd => rfl); (case hg => rfl); (case hr => first | (go_simp; done) | (go_simp; rfl))
                                  intro gb335 hg w43 hbox hb
                                  have HS8_ := (hb.cell (World.block_lt_of_cell? _ _ (hHeld.2.2.2.2.2.2.2.2))).trans (hHeld.2.2.2.2.2.2.2.2)
                                  have n0_ := Aside0.mk (Kd.R_below (by (with_reducible repeat (first | apply Kd.R_alloc | apply Kd.R_drewN | apply Kd.R_drew)); exact HO_8.out) hb)
                                  have n1_ := Aside0.mk (Kd.R_below (by (with_reducible repeat (first | apply Kd.R_alloc | apply Kd.R_drewN | apply Kd.R_drew)); exact HO_11.out) hb)
                                  have n2_ := Aside0.mk (Kd.V_below (Kd.V_elderB (by (with_reducible repeat (first | apply Kd.V_alloc | apply Kd.V_drewN | apply Kd.V_drew)); exact HO_307003.out) gb335 (Nat.le_of_eq hg.symm)) hb)
                                  have n3_ := Aside0.mk (Kd.V_below (Kd.V_elderB (by (with_reducible repeat (first | apply Kd.V_alloc | apply Kd.V_drewN | apply Kd.V_drew)); exact HO_320003.out) gb335 (Nat.le_of_eq hg.symm)) hb)
                                  have n4_ := Aside0.mk (Kd.V_below (Kd.V_elderB (by (with_reducible repeat (first | apply Kd.V_alloc | apply Kd.V_drewN | apply Kd.V_drew)); exact HO_321003.out) gb335 (Nat.le_of_eq hg.symm)) hb)
                                  have n5_ := Aside0.mk (blk_below (g := gb306) (o := .cells #[.bool a0_0, .int .u64 a0_1, .int .u64 a0_2, .slice (some ad324) l0_3.length c0_3] 26 (0, 0)) (by (with_reducible repeat (first | refine blk_drewN ?_ _ | refine blk_drew ?_ | refine blk_alloc ?_ _)); exact BK306.out) hb)
                                  have n6_ := Aside0.mk (blk_below (g := gb319) (o := .cells #[.bool t309, .int .u64 t310, .int .u64 t311, .slice Ao20 t312.length co20] 26 (0, 0)) (by (with_reducible repeat (first | refine blk_drewN ?_ _ | refine blk_drew ?_ | refine blk_alloc ?_ _)); exact BK319.out) hb)
                                  have n7_ := Aside0.mk (blk_below (g := gb320) (o := .cells #[.bool x321000_2, .int .u64 x321001_2, .int .u64 x321002_2, .slice Ao41 x321003_2.length co41] 26 (0, 0)) (by (with_reducible repeat (first | refine blk_drewN ?_ _ | refine blk_drew ?_ | refine blk_alloc ?_ _)); exact BK320.out) hb)
                                  have n8_ := Aside0.mk (below_step (by repeat (first | (with_reducible first | exact HB.out | apply below_alloc | apply pw_below_drewN | apply below_drew1 | refine below_set ?_ GE306.out | refine below_set ?_ GE319.out | refine below_set ?_ GE320.out) | exact HB.out)) hb)
                                  have n9_ := Aside0.mk (hbox)
                                  have n10_ := Aside0.mk ((by rw [hg]; exact (below_size (by repeat (first | (with_reducible first | exact HB.out | apply below_alloc | apply pw_below_drewN | apply below_drew1 | refine below_set ?_ GE306.out | refine below_set ?_ GE319.out | refine below_set ?_ GE320.out) | exact HB.out))) : w.heap.size ≤ gb335))
                                  have n11_ := Aside0.mk ((by rw [hg]; exact (below_size (by repeat (first | (with_reducible first | exact HB.out | apply below_alloc | apply pw_below_drewN | apply below_drew1 | refine below_set ?_ GE306.out | refine below_set ?_ GE319.out | refine below_set ?_ GE320.out) | exact HB.out))) : w.heap.size ≤ gb335))
                                  have n12_ := Aside0.mk ((by rw [hg]; exact Nat.ne_of_lt (blk_lt (g := gb306) (o := .cells #[.bool a0_0, .int .u64 a0_1, .int .u64 a0_2, .slice (some ad324) l0_3.length c0_3] 26 (0, 0)) (by (with_reducible repeat (first | refine blk_drewN ?_ _ | refine blk_drew ?_ | refine blk_alloc ?_ _)); exact BK306.out)) : gb306 ≠ gb335))
                                  have n13_ := Aside0.mk ((by rw [hg]; exact Nat.ne_of_gt (blk_lt (g := gb306) (o := .cells #[.bool a0_0, .int .u64 a0_1, .int .u64 a0_2, .slice (some ad324) l0_3.length c0_3] 26 (0, 0)) (by (with_reducible repeat (first | refine blk_drewN ?_ _ | refine blk_drew ?_ | refine blk_alloc ?_ _)); exact BK306.out)) : gb335 ≠ gb306))
                                  have n14_ := Aside0.mk ((by rw [hg]; exact Nat.ne_of_lt (blk_lt (g := gb319) (o := .cells #[.bool t309, .int .u64 t310, .int .u64 t311, .slice Ao20 t312.length co20] 26 (0, 0)) (by (with_reducible repeat (first | refine blk_drewN ?_ _ | refine blk_drew ?_ | refine blk_alloc ?_ _)); exact BK319.out)) : gb319 ≠ gb335))
                                  have n15_ := Aside0.mk ((by rw [hg]; exact Nat.ne_of_gt (blk_lt (g := gb319) (o := .cells #[.bool t309, .int .u64 t310, .int .u64 t311, .slice Ao20 t312.length co20] 26 (0, 0)) (by (with_reducible repeat (first | refine blk_drewN ?_ _ | refine blk_drew ?_ | refine blk_alloc ?_ _)); exact BK319.out)) : gb335 ≠ gb319))
                                  have n16_ := Aside0.mk ((by rw [hg]; exact Nat.ne_of_lt (blk_lt (g := gb320) (o := .cells #[.bool x321000_2, .int .u64 x321001_2, .int .u64 x321002_2, .slice Ao41 x321003_2.length co41] 26 (0, 0)) (by (with_reducible repeat (first | refine blk_drewN ?_ _ | refine blk_drew ?_ | refine blk_alloc ?_ _)); exact BK320.out)) : gb320 ≠ gb335))
                                  have n17_ := Aside0.mk ((by rw [hg]; exact Nat.ne_of_gt (blk_lt (g := gb320) (o := .cells #[.bool x321000_2, .int .u64 x321001_2, .int .u64 x321002_2, .slice Ao41 x321003_2.length co41] 26 (0, 0)) (by (with_reducible repeat (first | refine blk_drewN ?_ _ | refine blk_drew ?_ | refine blk_alloc ?_ _)); exact BK320.out)) : gb335 ≠ gb320))
                                  clear HO_8
                                  clear HO_11
                                  clear HO_307003
                                  clear HO_320003
                                  clear HO_321003
                                  clear BK306
                                  clear BK319
                                  clear BK320
                                  clear HB
                                  have HO_8 := n0_
                                  have HO_11 := n1_
                                  have HO_307003 := n2_
                                  have HO_320003 := n3_
                                  have HO_321003 := n4_
                                  have BK306 := n5_
                                  have BK319 := n6_
                                  have BK320 := n7_
                                  have HB := n8_
                                  have BK335 := n9_
                                  have GW335 := n10_
                                  have GE335 := n11_
                                  have NB306_335 := n12_
                                  have NB335_306 := n13_
                                  have NB319_335 := n14_
                                  have NB335_319 := n15_
                                  have NB320_335 := n16_
                                  have NB335_320 := n17_
                                  clear n0_ n1_ n2_ n3_ n4_ n5_ n6_ n7_ n8_ n9_ n10_ n11_ n12_ n13_ n14_ n15_ n16_ n17_
                                  clear hb hbox hg
                                  refine hK.out _ _ ⟨(blk_cell BK320.out 0).trans rfl, (blk_cell BK320.out 1).trans rfl, (blk_cell BK320.out 2).trans rfl, (blk_cell BK320.out 3).trans rfl, (blk_cell BK306.out 0).trans rfl, (blk_cell BK306.out 1).trans rfl, (blk_cell BK306.out 2).trans rfl, (blk_cell BK306.out 3).trans rfl, HS8_⟩ (fun hHeld => ?_)
                                  clear hK K
                                  refine norm_ (a' := ?_) ?_ ?_
                                  rotate_left
                                  · show Act.put _ (some 13) _ = _
                                    simp only [Act.put, List.setIfInBounds_toArray, List.set_cons_zero, List.set_cons_succ, i64_w, i32_w]
                                    rfl
                                  refine one_ (i := 9) (N := some 70) #[true, true, true, true, true, true, true, true, true, true, false, false, false, false, true, false, false, false] rfl rfl (one_of HT_.out (by kernel_rfl)) (by decide) (fun K hK => ?_)
                                  refine goes_ Try.func12 (by kernel_rfl) rfl #[.agg #[.bool x321000_2, .int .u64 x321001_2, .int .u64 x321002_2, .slice Ao41 x321003_2.length co41], .int .u64 (IntKind.u64.wrap ((rd l0_3 x12_2) + a0_2)), .bool false] (by rfl) rfl rfl (by (try simp only [List.map_toArray, List.map_cons, List.map_nil]); first | done | rfl | (simp only [List.length_drop, List.length_take]; rfl)) ?_
                                  with_reducible refine (seq_Confirm.calls x321000_2 x321001_2 x321002_2 (fun k_ => (((P0_3_ k_ ∨ w.heap.size ≤ k_) ∧ (some k_ ≠ (v316 : Value).ownBlock ∧ (some k_ ≠ (u11 : Value).ownBlock ∧ (k_ ≠ gb306 ∧ (k_ ≠ gb319 ∧ k_ ≠ gb320))))) ∧ k_ ≠ gb335)) _ _ x321003_2 (IntKind.u64.wrap ((rd l0_3 x12_2) + a0_2)) false t325 t326 t327 t328 t331 t334 _ ?side1 A38.out).mono ?_
                                  (case side1 => exact HO_321003.out)
                                  rintro e w44 ⟨v329, v332, rfl, ho0, ho1, hb⟩
                                  have HS8_ := (hb.cell (World.block_lt_of_cell? _ _ (hHeld.2.2.2.2.2.2.2.2))).trans (hHeld.2.2.2.2.2.2.2.2)
                                  refine ⟨_, rfl, ?_⟩
                                  have n0_ := Aside0.mk (Kd.R_elder' (by (with_reducible repeat (first | apply Kd.R_alloc | apply Kd.R_drewN | apply Kd.R_drew)); exact HO_8.out) (Kd.R_base ho1) hb)
                                  have n1_ := Aside0.mk (Kd.R_elder' (by (with_reducible repeat (first | apply Kd.R_alloc | apply Kd.R_drewN | apply Kd.R_drew)); exact HO_11.out) (Kd.R_base ho1) hb)
                                  have n2_ := Aside0.mk (Kd.V_elder' (by (with_reducible repeat (first | apply Kd.V_alloc | apply Kd.V_drewN | apply Kd.V_drew)); exact HO_307003.out) (Kd.R_base ho1) hb)
                                  have n3_ := Aside0.mk (Kd.V_elder' (by (with_reducible repeat (first | apply Kd.V_alloc | apply Kd.V_drewN | apply Kd.V_drew)); exact HO_320003.out) (Kd.R_base ho1) hb)
                                  have n4_ := Aside0.mk (Kd.V_elder' (by (with_reducible repeat (first | apply Kd.V_alloc | apply Kd.V_drewN | apply Kd.V_drew)); exact HO_321003.out) (Kd.R_base ho1) hb)
                                  have n5_ := Aside0.mk (Kd.V_lower (Kd.V_mono (ok' := fun k_ => (P0_3_ k_ ∨ w.heap.size ≤ k_) ∧ some k_ ≠ (v332 : Value).ownBlock ∧ some k_ ≠ (v316 : Value).ownBlock ∧ some k_ ≠ (u11 : Value).ownBlock ∧ k_ ≠ gb306 ∧ k_ ≠ gb319 ∧ k_ ≠ gb320 ∧ k_ ≠ gb335) ho0 (fun k_ hk_ => ⟨Or.elim hk_.1 (fun hs_ => hs_.1.1) (fun hn_ => (.inr (Nat.le_trans (below_size (by repeat (first | (with_reducible first | exact HB.out | apply below_alloc | apply pw_below_drewN | apply below_drew1 | refine below_set ?_ GE306.out | refine below_set ?_ GE319.out | refine below_set ?_ GE320.out | refine below_set ?_ GE335.out) | exact HB.out))) hn_))), hk_.2, Or.elim hk_.1 (fun hs_ => hs_.1.2.1) (fun hn_ => (Kd.fresh' (Kd.R_lt (by (with_reducible repeat (first | apply Kd.R_alloc | apply Kd.R_drewN | apply Kd.R_drew)); exact HO_8.out)) k_ hn_)), Or.elim hk_.1 (fun hs_ => hs_.1.2.2.1) (fun hn_ => (Kd.fresh' (Kd.R_lt (by (with_reducible repeat (first | apply Kd.R_alloc | apply Kd.R_drewN | apply Kd.R_drew)); exact HO_11.out)) k_ hn_)), Or.elim hk_.1 (fun hs_ => hs_.1.2.2.2.1) (fun hn_ => (Kd.freshB (g := gb306) (o := .cells #[.bool a0_0, .int .u64 a0_1, .int .u64 a0_2, .slice (some ad324) l0_3.length c0_3] 26 (0, 0)) (by (with_reducible repeat (first | refine blk_drewN ?_ _ | refine blk_drew ?_ | refine blk_alloc ?_ _)); exact BK306.out) k_ hn_)), Or.elim hk_.1 (fun hs_ => hs_.1.2.2.2.2.1) (fun hn_ => (Kd.freshB (g := gb319) (o := .cells #[.bool t309, .int .u64 t310, .int .u64 t311, .slice Ao20 t312.length co20] 26 (0, 0)) (by (with_reducible repeat (first | refine blk_drewN ?_ _ | refine blk_drew ?_ | refine blk_alloc ?_ _)); exact BK319.out) k_ hn_)), Or.elim hk_.1 (fun hs_ => hs_.1.2.2.2.2.2) (fun hn_ => (Kd.freshB (g := gb320) (o := .cells #[.bool x321000_2, .int .u64 x321001_2, .int .u64 x321002_2, .slice Ao41 x321003_2.length co41] 26 (0, 0)) (by (with_reducible repeat (first | refine blk_drewN ?_ _ | refine blk_drew ?_ | refine blk_alloc ?_ _)); exact BK320.out) k_ hn_)), Or.elim hk_.1 (fun hs_ => hs_.2) (fun hn_ => (Kd.freshB (g := gb335) (o := .cells #[.bool false, .int .u64 0, .int .u64 0, .slice none 0 0] 26 (0, 0)) (by (with_reducible repeat (first | refine blk_drewN ?_ _ | refine blk_drew ?_ | refine blk_alloc ?_ _)); exact BK335.out) k_ hn_))⟩)) (below_size (by repeat (first | (with_reducible first | exact HB.out | apply below_alloc | apply pw_below_drewN | apply below_drew1 | refine below_set ?_ GE306.out | refine below_set ?_ GE319.out | refine below_set ?_ GE320.out | refine below_set ?_ GE335.out) | exact HB.out))))
                                  have n6_ := Aside0.mk (Kd.R_lower (Kd.R_new' (Kd.R_new' (Kd.R_newM (M := fun k_ => (w.heap.size ≤ k_)) (Kd.R_mono (ok' := fun k_ => True) ho1 (fun _ hk_ => trivial)) (below_size (by repeat (first | (with_reducible first | exact HB.out | apply below_alloc | apply pw_below_drewN | apply below_drew1 | refine below_set ?_ GE306.out | refine below_set ?_ GE319.out | refine below_set ?_ GE320.out | refine below_set ?_ GE335.out) | exact HB.out))) (fun k_ h_ => h_)) (Kd.R_lt (by (with_reducible repeat (first | apply Kd.R_alloc | apply Kd.R_drewN | apply Kd.R_drew)); exact HO_8.out))) (Kd.R_lt (by (with_reducible repeat (first | apply Kd.R_alloc | apply Kd.R_drewN | apply Kd.R_drew)); exact HO_11.out))) (below_size (by repeat (first | (with_reducible first | exact HB.out | apply below_alloc | apply pw_below_drewN | apply below_drew1 | refine below_set ?_ GE306.out | refine below_set ?_ GE319.out | refine below_set ?_ GE320.out | refine below_set ?_ GE335.out) | exact HB.out))))
                                  have n7_ := Aside0.mk (blk_below (g := gb306) (o := .cells #[.bool a0_0, .int .u64 a0_1, .int .u64 a0_2, .slice (some ad324) l0_3.length c0_3] 26 (0, 0)) (by (with_reducible repeat (first | refine blk_drewN ?_ _ | refine blk_drew ?_ | refine blk_alloc ?_ _)); exact BK306.out) hb)
                                  have n8_ := Aside0.mk (blk_below (g := gb319) (o := .cells #[.bool t309, .int .u64 t310, .int .u64 t311, .slice Ao20 t312.length co20] 26 (0, 0)) (by (with_reducible repeat (first | refine blk_drewN ?_ _ | refine blk_drew ?_ | refine blk_alloc ?_ _)); exact BK319.out) hb)
                                  have n9_ := Aside0.mk (blk_below (g := gb320) (o := .cells #[.bool x321000_2, .int .u64 x321001_2, .int .u64 x321002_2, .slice Ao41 x321003_2.length co41] 26 (0, 0)) (by (with_reducible repeat (first | refine blk_drewN ?_ _ | refine blk_drew ?_ | refine blk_alloc ?_ _)); exact BK320.out) hb)
                                  have n10_ := Aside0.mk (blk_below (g := gb335) (o := .cells #[.bool false, .int .u64 0, .int .u64 0, .slice none 0 0] 26 (0, 0)) (by (with_reducible repeat (first | refine blk_drewN ?_ _ | refine blk_drew ?_ | refine blk_alloc ?_ _)); exact BK335.out) hb)
                                  have n11_ := Aside0.mk (below_step (by repeat (first | (with_reducible first | exact HB.out | apply below_alloc | apply pw_below_drewN | apply below_drew1 | refine below_set ?_ GE306.out | refine below_set ?_ GE319.out | refine below_set ?_ GE320.out | refine below_set ?_ GE335.out) | exact HB.out)) hb)
                                  clear HO_8
                                  clear HO_11
                                  clear HO_307003
                                  clear HO_320003
                                  clear HO_321003
                                  clear BK306
                                  clear BK319
                                  clear BK320
                                  clear BK335
                                  clear HB
                                  have HO_8 := n0_
                                  have HO_11 := n1_
                                  have HO_307003 := n2_
                                  have HO_320003 := n3_
                                  have HO_321003 := n4_
                                  have HO330 := n5_
                                  have HO333 := n6_
                                  have BK306 := n7_
                                  have BK319 := n8_
                                  have BK320 := n9_
                                  have BK335 := n10_
                                  have HB := n11_
                                  clear n0_ n1_ n2_ n3_ n4_ n5_ n6_ n7_ n8_ n9_ n10_ n11_
                                  (try clear hb)
                                  (try clear hb2)
                                  (try clear hk)
                                  (try clear hi)
                                  (try clear ho0)
                                  (try clear ho1)
                                  refine hK.out _ _ ⟨(blk_cell BK320.out 0).trans rfl, (blk_cell BK320.out 1).trans rfl, (blk_cell BK320.out 2).trans rfl, (blk_cell BK320.out 3).trans rfl, (blk_cell BK306.out 0).trans rfl, (blk_cell BK306.out 1).trans rfl, (blk_cell BK306.out 2).trans rfl, (blk_cell BK306.out 3).trans rfl, HS8_⟩ (fun hHeld => ?_)
                                  clear hK K
                                  refine norm_ (a' := ?_) ?_ ?_
                                  rotate_left
                                  · show Act.put _ (some 70) _ = _
                                    simp only [Act.put, List.setIfInBounds_toArray, List.set_cons_zero, List.set_cons_succ, i64_w, i32_w]
                                    rfl
                                  refine pure_ (i := 10) (N := some 60) (v := ?_) (a' := ?_) #[true, true, true, true, true, true, true, true, true, true, true, false, false, false, true, false, false, false] rfl rfl (any_of HT_.out (by kernel_rfl)) (fun _ _ _ h => h) (Or.inl ⟨by rfl, ?_⟩) ?_ ?_
                                  rotate_left
                                  · intro w'
                                    go_simp
                                    with_reducible rfl
                                  rotate_left
                                  · simp only [Act.put, List.setIfInBounds_toArray, List.set_cons_zero, List.set_cons_succ, i64_w, i32_w]
                                    rfl
                                  refine pure_ (i := 11) (N := some 71) (v := ?_) (a' := ?_) #[true, true, true, true, true, true, true, true, true, true, true, true, false, false, true, false, false, false] rfl rfl (any_of HT_.out (by kernel_rfl)) (fun _ _ _ h => h) (Or.inl ⟨by rfl, ?_⟩) ?_ ?_
                                  rotate_left
                                  · intro w'
                                    go_simp
                                    with_reducible rfl
                                  rotate_left
                                  · simp only [Act.put, List.setIfInBounds_toArray, List.set_cons_zero, List.set_cons_succ, i64_w, i32_w]
                                    rfl
                                  refine pure_ (i := 12) (N := some 72) (v := ?_) (a' := ?_) #[true, true, true, true, true, true, true, true, true, true, true, true, true, false, true, false, false, false] rfl rfl (any_of HT_.out (by kernel_rfl)) (fun _ _ _ h => h) (Or.inl ⟨by rfl, ?_⟩) ?_ ?_
                                  rotate_left
                                  · intro w'
                                    go_simp
                                    with_reducible rfl
                                  rotate_left
                                  · simp only [Act.put, List.setIfInBounds_toArray, List.set_cons_zero, List.set_cons_succ, i64_w, i32_w]
                                    rfl
                                  refine pure_ (i := 13) (N := some 73) (v := ?_) (a' := ?_) #[true, true, true, true, true, true, true, true, true, true, true, true, true, true, true, false, false, false] rfl rfl (any_of HT_.out (by kernel_rfl)) (fun _ _ _ h => h) (Or.inl ⟨by rfl, ?_⟩) ?_ ?_
                                  rotate_left
                                  · intro w'
                                    go_simp
                                    with_reducible rfl
                                  rotate_left
                                  · simp only [Act.put, List.setIfInBounds_toArray, List.set_cons_zero, List.set_cons_succ, i64_w, i32_w]
                                    rfl
                                  exact norm_ (by simp only [putAll, Act.put, List.setIfInBounds_toArray, List.set_cons_zero, List.set_cons_succ]) (hCont (v329, v332, gb335) _ ⟨hHeld, (by (with_reducible repeat (first | apply Kd.V_alloc | apply Kd.V_drewN | apply Kd.V_drew)); exact Kd.V_mono HO330.out (fun _ hk => ⟨hk.1, ⟨hk.2.1, ⟨hk.2.2.2.1, ⟨hk.2.2.1, ⟨hk.2.2.2.2.1, ⟨hk.2.2.2.2.2.1, ⟨hk.2.2.2.2.2.2.1, hk.2.2.2.2.2.2.2⟩⟩⟩⟩⟩⟩⟩)), (by (with_reducible repeat (first | apply Kd.R_alloc | apply Kd.R_drewN | apply Kd.R_drew)); exact Kd.R_mono HO333.out (fun _ hk => ⟨hk.1.1.1, ⟨hk.2, hk.1.2⟩⟩)), (by (with_reducible repeat (first | apply Kd.R_alloc | apply Kd.R_drewN | apply Kd.R_drew)); exact Kd.R_mono HO_11.out (fun _ hk => ⟨hk.1.1, ⟨hk.2, hk.1.2⟩⟩)), (by (with_reducible repeat (first | apply Kd.V_alloc | apply Kd.V_drewN | apply Kd.V_drew)); exact Kd.V_mono HO_307003.out (fun _ hk => ⟨hk.1.1.1, ⟨hk.2, ⟨hk.1.1.2.2.1, ⟨hk.1.1.2.1, ⟨hk.1.1.2.2.2.1, ⟨hk.1.1.2.2.2.2.1, ⟨hk.1.1.2.2.2.2.2, hk.1.2⟩⟩⟩⟩⟩⟩⟩)), (by (with_reducible repeat (first | apply Kd.V_alloc | apply Kd.V_drewN | apply Kd.V_drew)); exact Kd.V_mono HO_320003.out (fun _ hk => ⟨hk.1.1.1, ⟨hk.2, ⟨hk.1.1.2.2.1, ⟨hk.1.1.2.1, ⟨hk.1.1.2.2.2.1, ⟨hk.1.1.2.2.2.2.1, ⟨hk.1.1.2.2.2.2.2, hk.1.2⟩⟩⟩⟩⟩⟩⟩)), (by (with_reducible repeat (first | apply Kd.V_alloc | apply Kd.V_drewN | apply Kd.V_drew)); exact Kd.V_mono HO_321003.out (fun _ hk => ⟨hk.1.1.1, ⟨hk.2, ⟨hk.1.1.2.2.1, ⟨hk.1.1.2.1, ⟨hk.1.1.2.2.2.1, ⟨hk.1.1.2.2.2.2.1, ⟨hk.1.1.2.2.2.2.2, hk.1.2⟩⟩⟩⟩⟩⟩⟩)), (by (with_reducible repeat (first | apply Kd.R_alloc | apply Kd.R_drewN | apply Kd.R_drew)); exact Kd.R_mono HO_8.out (fun _ hk => ⟨hk.1.1, ⟨hk.2, hk.1.2⟩⟩)), (by (with_reducible repeat (first | refine blk_drewN ?_ _ | refine blk_drew ?_ | refine blk_alloc ?_ _)); exact BK306.out), (by (with_reducible repeat (first | refine blk_drewN ?_ _ | refine blk_drew ?_ | refine blk_alloc ?_ _)); exact BK319.out), (by (with_reducible repeat (first | refine blk_drewN ?_ _ | refine blk_drew ?_ | refine blk_alloc ?_ _)); exact BK320.out), (by (with_reducible repeat (first | refine blk_drewN ?_ _ | refine blk_drew ?_ | refine blk_alloc ?_ _)); exact BK335.out), GW335.out, GE335.out, NB306_335.out, NB335_306.out, NB319_335.out, NB335_319.out, NB320_335.out, NB335_320.out, (by repeat (first | (with_reducible first | exact HB.out | apply below_alloc | apply pw_below_drewN | apply below_drew1 | refine below_set ?_ GE306.out | refine below_set ?_ GE319.out | refine below_set ?_ GE320.out | refine below_set ?_ GE335.out) | exact HB.out))⟩)
                              rintro ⟨v329, v332, gb335⟩ w45 ⟨hS_, h0_, h1_, h2_, h3_, h4_, h5_, h6_, h7_, h8_, h9_, h10_, h11_, h12_, h13_, h14_, h15_, h16_, h17_, h18_, h19_⟩
                              have n0_ : Aside0 (Kd.V (Kd.int .u64) 22 w45 w.heap.size (fun k_ => (P0_3_ k_ ∨ w.heap.size ≤ k_) ∧ some k_ ≠ (v332 : Value).ownBlock ∧ some k_ ≠ (u11 : Value).ownBlock ∧ some k_ ≠ (v316 : Value).ownBlock ∧ k_ ≠ gb306 ∧ k_ ≠ gb319 ∧ k_ ≠ gb320 ∧ k_ ≠ gb335) v329 t328) := ⟨h0_⟩
                              have n1_ : Aside0 (Kd.R (Kd.int .u64) 22 w45 w.heap.size (fun k_ => (w.heap.size ≤ k_) ∧ some k_ ≠ (u11 : Value).ownBlock ∧ some k_ ≠ (v316 : Value).ownBlock) v332 t331) := ⟨h1_⟩
                              have n2_ : Aside0 (Kd.R (Kd.int .u64) 22 w45 w.heap.size (fun k_ => (w.heap.size ≤ k_) ∧ some k_ ≠ (v332 : Value).ownBlock ∧ some k_ ≠ (v316 : Value).ownBlock) u11 x11_2) := ⟨h2_⟩
                              have n3_ : Aside0 (Kd.V (Kd.int .u64) 22 w45 w.heap.size (fun k_ => (P0_3_ k_ ∨ w.heap.size ≤ k_) ∧ some k_ ≠ (v332 : Value).ownBlock ∧ some k_ ≠ (u11 : Value).ownBlock ∧ some k_ ≠ (v316 : Value).ownBlock ∧ k_ ≠ gb306 ∧ k_ ≠ gb319 ∧ k_ ≠ gb320 ∧ k_ ≠ gb335) (.slice (some ad324) l0_3.length c0_3) l0_3) := ⟨h3_⟩
                              have n4_ : Aside0 (Kd.V (Kd.int .u64) 22 w45 w.heap.size (fun k_ => (P0_3_ k_ ∨ w.heap.size ≤ k_) ∧ some k_ ≠ (v332 : Value).ownBlock ∧ some k_ ≠ (u11 : Value).ownBlock ∧ some k_ ≠ (v316 : Value).ownBlock ∧ k_ ≠ gb306 ∧ k_ ≠ gb319 ∧ k_ ≠ gb320 ∧ k_ ≠ gb335) (.slice Ao20 t312.length co20) t312) := ⟨h4_⟩
                              have n5_ : Aside0 (Kd.V (Kd.int .u64) 22 w45 w.heap.size (fun k_ => (P0_3_ k_ ∨ w.heap.size ≤ k_) ∧ some k_ ≠ (v332 : Value).ownBlock ∧ some k_ ≠ (u11 : Value).ownBlock ∧ some k_ ≠ (v316 : Value).ownBlock ∧ k_ ≠ gb306 ∧ k_ ≠ gb319 ∧ k_ ≠ gb320 ∧ k_ ≠ gb335) (.slice Ao41 x321003_2.length co41) x321003_2) := ⟨h5_⟩
                              have n6_ : Aside0 (Kd.R (Kd.int .u64) 22 w45 w.heap.size (fun k_ => (w.heap.size ≤ k_) ∧ some k_ ≠ (v332 : Value).ownBlock ∧ some k_ ≠ (u11 : Value).ownBlock) v316 t315) := ⟨h6_⟩
                              have n7_ : Aside0 (w45.heap[gb306]? = some (.cells #[.bool a0_0, .int .u64 a0_1, .int .u64 a0_2, .slice (some ad324) l0_3.length c0_3] 26 (0, 0))) := ⟨h7_⟩
                              have n8_ : Aside0 (w45.heap[gb319]? = some (.cells #[.bool t309, .int .u64 t310, .int .u64 t311, .slice Ao20 t312.length co20] 26 (0, 0))) := ⟨h8_⟩
                              have n9_ : Aside0 (w45.heap[gb320]? = some (.cells #[.bool x321000_2, .int .u64 x321001_2, .int .u64 x321002_2, .slice Ao41 x321003_2.length co41] 26 (0, 0))) := ⟨h9_⟩
                              have n10_ : Aside0 (w45.heap[gb335]? = some (.cells #[.bool false, .int .u64 0, .int .u64 0, .slice none 0 0] 26 (0, 0))) := ⟨h10_⟩
                              have n11_ : Aside0 (w.heap.size ≤ gb335) := ⟨h11_⟩
                              have n12_ : Aside0 (w.heap.size ≤ gb335) := ⟨h12_⟩
                              have n13_ : Aside0 (gb306 ≠ gb335) := ⟨h13_⟩
                              have n14_ : Aside0 (gb335 ≠ gb306) := ⟨h14_⟩
                              have n15_ : Aside0 (gb319 ≠ gb335) := ⟨h15_⟩
                              have n16_ : Aside0 (gb335 ≠ gb319) := ⟨h16_⟩
                              have n17_ : Aside0 (gb320 ≠ gb335) := ⟨h17_⟩
                              have n18_ : Aside0 (gb335 ≠ gb320) := ⟨h18_⟩
                              have n19_ : Aside0 (Below w.heap.size w w45) := ⟨h19_⟩
                              clear HO_8
                              clear HO_11
                              clear HO_307003
                              clear HO_320003
                              clear HO_321003
                              clear BK306
                              clear BK319
                              clear BK320
                              clear HB
                              clear h0_ h1_ h2_ h3_ h4_ h5_ h6_ h7_ h8_ h9_ h10_ h11_ h12_ h13_ h14_ h15_ h16_ h17_ h18_ h19_
                              have HO330 := n0_
                              have HO333 := n1_
                              have HO_11 := n2_
                              have HO_307003 := n3_
                              have HO_320003 := n4_
                              have HO_321003 := n5_
                              have HO_8 := n6_
                              have BK306 := n7_
                              have BK319 := n8_
                              have BK320 := n9_
                              have BK335 := n10_
                              have GW335 := n11_
                              have GE335 := n12_
                              have NB306_335 := n13_
                              have NB335_306 := n14_
                              have NB319_335 := n15_
                              have NB335_319 := n16_
                              have NB320_335 := n17_
                              have NB335_320 := n18_
                              have HB := n19_
                              clear n0_ n1_ n2_ n3_ n4_ n5_ n6_ n7_ n8_ n9_ n10_ n11_ n12_ n13_ n14_ n15_ n16_ n17_ n18_ n19_
                              have hHeld : w45.cell? ⟨gb320, 0, none⟩ = some (.bool x321000_2) ∧ w45.cell? ⟨gb320, 1, none⟩ = some (.int .u64 x321001_2) ∧ w45.cell? ⟨gb320, 2, none⟩ = some (.int .u64 x321002_2) ∧ w45.cell? ⟨gb320, 3, none⟩ = some (.slice Ao41 x321003_2.length co41) ∧ w45.cell? ⟨gb306, 0, none⟩ = some (.bool a0_0) ∧ w45.cell? ⟨gb306, 1, none⟩ = some (.int .u64 a0_1) ∧ w45.cell? ⟨gb306, 2, none⟩ = some (.int .u64 a0_2) ∧ w45.cell? ⟨gb306, 3, none⟩ = some (.slice (some ad324) l0_3.length c0_3) ∧ w45.cell? (ad324.add (x12_2).toNat) = some (.int .u64 (rd l0_3 x12_2)) := hS_
                              obtain ⟨Ao49, co49, eo49⟩ := Kd.V_slice HO330.out
                              (first | subst eo49 | (injection eo49 with f1_ f2_ f3_; have f4_ := f1_.symm; have f5_ := f3_.symm; clear f1_ f2_ f3_; subst f4_; subst f5_))
                              refine norm_ (a' := ?_) ?_ ?_
                              rotate_left
                              · simp only [putAll, Act.put, List.setIfInBounds_toArray, List.set_cons_zero, List.set_cons_succ]
                                rfl
                              refine one_ (i := 15) (N := none) #[true, true, true, true, true, true, true, true, true, true, true, true, true, true, true, true, false, false] rfl rfl (one_of HT_.out (by kernel_rfl)) (by decide) (fun K hK => ?_)
                              have hs46 : w45.cell? ⟨gb335, 0, none⟩ = some (.bool false) := (blk_cell BK335.out 0).trans rfl
                              have hfs46 := blk_frozen BK335.out 0
                              have hns46_0 := NB306_335.out
                              have hns46_1 := NB319_335.out
                              have hns46_2 := NB320_335.out
                              have hms46_0 := NB335_306.out
                              have hms46_1 := NB335_319.out
                              have hms46_2 := NB335_320.out
                              have hs47 : w45.cell? ⟨gb335, 1, none⟩ = some (.int .u64 0) := (blk_cell BK335.out 1).trans rfl
                              have hfs47 := blk_frozen BK335.out 1
                              have hns47_0 := NB306_335.out
                              have hns47_1 := NB319_335.out
                              have hns47_2 := NB320_335.out
                              have hms47_0 := NB335_306.out
                              have hms47_1 := NB335_319.out
                              have hms47_2 := NB335_320.out
                              have hs48 : w45.cell? ⟨gb335, 2, none⟩ = some (.int .u64 0) := (blk_cell BK335.out 2).trans rfl
                              have hfs48 := blk_frozen BK335.out 2
                              have hns48_0 := NB306_335.out
                              have hns48_1 := NB319_335.out
                              have hns48_2 := NB320_335.out
                              have hms48_0 := NB335_306.out
                              have hms48_1 := NB335_319.out
                              have hms48_2 := NB335_320.out
                              have hs50 : w45.cell? ⟨gb335, 3, none⟩ = some (.slice none 0 0) := (blk_cell BK335.out 3).trans rfl
                              have hfs50 := blk_frozen BK335.out 3
                              have hns50_0 := NB306_335.out
                              have hns50_1 := NB319_335.out
                              have hns50_2 := NB320_335.out
                              have hms50_0 := NB335_306.out
                              have hms50_1 := NB335_319.out
                              have hms50_2 := NB335_320.out
                              refine skip_ (w1 := ?_) (by rfl) rfl ?_ ?_
                              rotate_left
                              · go_simp
                                rfl
                              refine hK.out _ _ ⟨((cell_far (p := ⟨gb335, _, none⟩) NB320_335.out _).trans (((cell_far (p := ⟨gb335, _, none⟩) NB320_335.out _).trans (((cell_far (p := ⟨gb335, _, none⟩) NB320_335.out _).trans (((cell_far (p := ⟨gb335, _, none⟩) NB320_335.out _).trans (hHeld.1)))))))), ((cell_far (p := ⟨gb335, _, none⟩) NB320_335.out _).trans (((cell_far (p := ⟨gb335, _, none⟩) NB320_335.out _).trans (((cell_far (p := ⟨gb335, _, none⟩) NB320_335.out _).trans (((cell_far (p := ⟨gb335, _, none⟩) NB320_335.out _).trans (hHeld.2.1)))))))), ((cell_far (p := ⟨gb335, _, none⟩) NB320_335.out _).trans (((cell_far (p := ⟨gb335, _, none⟩) NB320_335.out _).trans (((cell_far (p := ⟨gb335, _, none⟩) NB320_335.out _).trans (((cell_far (p := ⟨gb335, _, none⟩) NB320_335.out _).trans (hHeld.2.2.1)))))))), ((cell_far (p := ⟨gb335, _, none⟩) NB320_335.out _).trans (((cell_far (p := ⟨gb335, _, none⟩) NB320_335.out _).trans (((cell_far (p := ⟨gb335, _, none⟩) NB320_335.out _).trans (((cell_far (p := ⟨gb335, _, none⟩) NB320_335.out _).trans (hHeld.2.2.2.1)))))))), ((cell_far (p := ⟨gb335, _, none⟩) NB306_335.out _).trans (((cell_far (p := ⟨gb335, _, none⟩) NB306_335.out _).trans (((cell_far (p := ⟨gb335, _, none⟩) NB306_335.out _).trans (((cell_far (p := ⟨gb335, _, none⟩) NB306_335.out _).trans (hHeld.2.2.2.2.1)))))))), ((cell_far (p := ⟨gb335, _, none⟩) NB306_335.out _).trans (((cell_far (p := ⟨gb335, _, none⟩) NB306_335.out _).trans (((cell_far (p := ⟨gb335, _, none⟩) NB306_335.out _).trans (((cell_far (p := ⟨gb335, _, none⟩) NB306_335.out _).trans (hHeld.2.2.2.2.2.1)))))))), ((cell_far (p := ⟨gb335, _, none⟩) NB306_335.out _).trans (((cell_far (p := ⟨gb335, _, none⟩) NB306_335.out _).trans (((cell_far (p := ⟨gb335, _, none⟩) NB306_335.out _).trans (((cell_far (p := ⟨gb335, _, none⟩) NB306_335.out _).trans (hHeld.2.2.2.2.2.2.1)))))))), ((cell_far (p := ⟨gb335, _, none⟩) NB306_335.out _).trans (((cell_far (p := ⟨gb335, _, none⟩) NB306_335.out _).trans (((cell_far (p := ⟨gb335, _, none⟩) NB306_335.out _).trans (((cell_far (p := ⟨gb335, _, none⟩) NB306_335.out _).trans (hHeld.2.2.2.2.2.2.2.1)))))))), ((cell_far (p := ⟨gb335, _, none⟩) (by first | exact V_away1 HO_307003.out (by have h1_ := of_decide_eq_true c36b0; have h2_ := of_decide_eq_true c37b0; omega) (by decide) (fun _ hk => hk.2.2.2.2.2.2.2) | (rw [add_block]; exact V_away1 HO_307003.out (by have h1_ := of_decide_eq_true c36b0; have h2_ := of_decide_eq_true c37b0; omega) (by decide) (fun _ hk => hk.2.2.2.2.2.2.2)) | (show (Addr.add _ _).block ≠ _; rw [add_block]; exact V_away1 HO_307003.out (by have h1_ := of_decide_eq_true c36b0; have h2_ := of_decide_eq_true c37b0; omega) (by decide) (fun _ hk => hk.2.2.2.2.2.2.2)) | (dsimp only; exact V_away1 HO_307003.out (by have h1_ := of_decide_eq_true c36b0; have h2_ := of_decide_eq_true c37b0; omega) (by decide) (fun _ hk => hk.2.2.2.2.2.2.2))) _).trans (((cell_far (p := ⟨gb335, _, none⟩) (by first | exact V_away1 HO_307003.out (by have h1_ := of_decide_eq_true c36b0; have h2_ := of_decide_eq_true c37b0; omega) (by decide) (fun _ hk => hk.2.2.2.2.2.2.2) | (rw [add_block]; exact V_away1 HO_307003.out (by have h1_ := of_decide_eq_true c36b0; have h2_ := of_decide_eq_true c37b0; omega) (by decide) (fun _ hk => hk.2.2.2.2.2.2.2)) | (show (Addr.add _ _).block ≠ _; rw [add_block]; exact V_away1 HO_307003.out (by have h1_ := of_decide_eq_true c36b0; have h2_ := of_decide_eq_true c37b0; omega) (by decide) (fun _ hk => hk.2.2.2.2.2.2.2)) | (dsimp only; exact V_away1 HO_307003.out (by have h1_ := of_decide_eq_true c36b0; have h2_ := of_decide_eq_true c37b0; omega) (by decide) (fun _ hk => hk.2.2.2.2.2.2.2))) _).trans (((cell_far (p := ⟨gb335, _, none⟩) (by first | exact V_away1 HO_307003.out (by have h1_ := of_decide_eq_true c36b0; have h2_ := of_decide_eq_true c37b0; omega) (by decide) (fun _ hk => hk.2.2.2.2.2.2.2) | (rw [add_block]; exact V_away1 HO_307003.out (by have h1_ := of_decide_eq_true c36b0; have h2_ := of_decide_eq_true c37b0; omega) (by decide) (fun _ hk => hk.2.2.2.2.2.2.2)) | (show (Addr.add _ _).block ≠ _; rw [add_block]; exact V_away1 HO_307003.out (by have h1_ := of_decide_eq_true c36b0; have h2_ := of_decide_eq_true c37b0; omega) (by decide) (fun _ hk => hk.2.2.2.2.2.2.2)) | (dsimp only; exact V_away1 HO_307003.out (by have h1_ := of_decide_eq_true c36b0; have h2_ := of_decide_eq_true c37b0; omega) (by decide) (fun _ hk => hk.2.2.2.2.2.2.2))) _).trans (((cell_far (p := ⟨gb335, _, none⟩) (by first | exact V_away1 HO_307003.out (by have h1_ := of_decide_eq_true c36b0; have h2_ := of_decide_eq_true c37b0; omega) (by decide) (fun _ hk => hk.2.2.2.2.2.2.2) | (rw [add_block]; exact V_away1 HO_307003.out (by have h1_ := of_decide_eq_true c36b0; have h2_ := of_decide_eq_true c37b0; omega) (by decide) (fun _ hk => hk.2.2.2.2.2.2.2)) | (show (Addr.add _ _).block ≠ _; rw [add_block]; exact V_away1 HO_307003.out (by have h1_ := of_decide_eq_true c36b0; have h2_ := of_decide_eq_true c37b0; omega) (by decide) (fun _ hk => hk.2.2.2.2.2.2.2)) | (dsimp only; exact V_away1 HO_307003.out (by have h1_ := of_decide_eq_true c36b0; have h2_ := of_decide_eq_true c37b0; omega) (by decide) (fun _ hk => hk.2.2.2.2.2.2.2))) _).trans (hHeld.2.2.2.2.2.2.2.2))))))))⟩ (fun hHeld => ?_)
                              clear hK K
                              refine pure_ (i := 16) (N := some 14) (v := ?_) (a' := ?_) #[true, true, true, true, true, true, true, true, true, true, true, true, true, true, true, true, true, false] rfl rfl (any_of HT_.out (by kernel_rfl)) (fun _ _ _ h => h) (Or.inl ⟨by rfl, ?_⟩) ?_ ?_
                              rotate_left
                              · intro w'
                                go_simp
                                with_reducible rfl
                              rotate_left
                              · simp only [Act.put, List.setIfInBounds_toArray, List.set_cons_zero, List.set_cons_succ, i64_w, i32_w]
                                rfl
                              refine pure_ (i := 17) (N := some 15) (v := ?_) (a' := ?_) #[true, true, true, true, true, true, true, true, true, true, true, true, true, true, true, true, true, true] rfl rfl (any_of HT_.out (by kernel_rfl)) (fun _ _ _ h => h) (Or.inl ⟨by rfl, ?_⟩) ?_ ?_
                              rotate_left
                              · intro w'
                                go_simp
                                with_reducible rfl
                              rotate_left
                              · simp only [Act.put, List.setIfInBounds_toArray, List.set_cons_zero, List.set_cons_succ, i64_w, i32_w]
                                rfl
                              refine done_ (done_of HT_.out (by kernel_rfl)) ?_
                              have hnb51 := NB335_306.out
                              have hnc51 := NB306_335.out
                              have hnb52 := NB335_319.out
                              have hnc52 := NB319_335.out
                              have hnb53 := NB335_320.out
                              have hnc53 := NB320_335.out
                              have hcz54_0 : w45.cell? ⟨gb335, 0, none⟩ = some (.bool false) := (blk_cell BK335.out 0).trans rfl
                              have hcz54_1 : w45.cell? ⟨gb335, 1, none⟩ = some (.int .u64 0) := (blk_cell BK335.out 1).trans rfl
                              have hcz54_2 : w45.cell? ⟨gb335, 2, none⟩ = some (.int .u64 0) := (blk_cell BK335.out 2).trans rfl
                              have hcz54_3 : w45.cell? ⟨gb335, 3, none⟩ = some (.slice none 0 0) := (blk_cell BK335.out 3).trans rfl
                              have hfz54_0 := blk_frozen BK335.out 0
                              have hfz54_1 := blk_frozen BK335.out 1
                              have hfz54_2 := blk_frozen BK335.out 2
                              have hfz54_3 := blk_frozen BK335.out 3
                              have hnb55 := NB320_306.out
                              have hnc55 := NB306_320.out
                              have hnb56 := NB320_319.out
                              have hnc56 := NB319_320.out
                              have hcz57_0 : w45.cell? ⟨gb320, 0, none⟩ = some (.bool x321000_2) := (blk_cell BK320.out 0).trans rfl
                              have hcz57_1 : w45.cell? ⟨gb320, 1, none⟩ = some (.int .u64 x321001_2) := (blk_cell BK320.out 1).trans rfl
                              have hcz57_2 : w45.cell? ⟨gb320, 2, none⟩ = some (.int .u64 x321002_2) := (blk_cell BK320.out 2).trans rfl
                              have hcz57_3 : w45.cell? ⟨gb320, 3, none⟩ = some (.slice Ao41 x321003_2.length co41) := (blk_cell BK320.out 3).trans rfl
                              have hfz57_0 := blk_frozen BK320.out 0
                              have hfz57_1 := blk_frozen BK320.out 1
                              have hfz57_2 := blk_frozen BK320.out 2
                              have hfz57_3 := blk_frozen BK320.out 3
                              obtain ⟨Ao59, co59, eo59⟩ := Kd.R_slice HO333.out
                              subst eo59
                              try go_wp2_with (first | ((with_reducible refine gate_builtin (b := .append) (xs := #[.tmp 77, .tmp 78]) rfl ?_); (try (refine gate_guard (by rfl) ?_; dsimp only)); at_builtin; refine Kd.R_append_rows (Kd.int .u64) (w0 := w) w.heap.size rfl (.tmp 77) (.tmp 78) 24 22 (.int .u64 0) 8 rfl Try.underlying24 info22 rfl (by decide) (by omega) u11 x11_2 t331 _ _ _ (fun k_ => (w.heap.size ≤ k_) ∧ some k_ ≠ (v316 : Value).ownBlock ∧ some k_ ≠ (.slice Ao59 t331.length co59 : Value).ownBlock) (fun _ => False) rfl rfl ?aO ?aR (fun _ _ h => h) (fun _ h => h.elim) ?aF ?aB ?aS ?aL ?_; (case aR => refine (Kd.R_reads' (e := 22) (base := w.heap.size) (ok := fun k_ => ((w.heap.size ≤ k_) ∧ (some k_ ≠ (u11 : Value).ownBlock ∧ some k_ ≠ (v316 : Value).ownBlock))) (n := t331.length) (c := co59) ?_).2.2; exact (by (with_reducible repeat (first | apply Kd.R_alloc | apply Kd.R_drewN | apply Kd.R_drew)); exact (Kd.R_mono (Kd.R_mono (Kd.R_far (p := ⟨gb320, 3, none⟩) (Kd.R_far (p := ⟨gb320, 2, none⟩) (Kd.R_far (p := ⟨gb320, 1, none⟩) (Kd.R_far (p := ⟨gb320, 0, none⟩) (Kd.R_far (p := ⟨gb335, 3, none⟩) (Kd.R_far (p := ⟨gb335, 2, none⟩) (Kd.R_far (p := ⟨gb335, 1, none⟩) (Kd.R_far (p := ⟨gb335, 0, none⟩) (Kd.R_types (Kd.R_types HO333.out BK335.out (by decide)) BK320.out (by decide)) (fun _ hk => hk.1.2) (.bool t325)) (fun _ hk => hk.1.2) (.int .u64 t326)) (fun _ hk => hk.1.2) (.int .u64 t327)) (fun _ hk => hk.1.2) (.slice Ao49 t328.length co49)) (fun _ hk => hk.2) (.bool t325)) (fun _ hk => hk.2) (.int .u64 t326)) (fun _ hk => hk.2) (.int .u64 t327)) (fun _ hk => hk.2) (.slice Ao49 t328.length co49)) (fun _ h_ => h_.1)) (fun _ h_ => h_.1)))); (case aB => exact (by repeat (first | (with_reducible first | exact HB.out | apply below_alloc | apply pw_below_drewN | apply below_drew1 | refine below_set ?_ GE306.out | refine below_set ?_ GE319.out | refine below_set ?_ GE320.out | refine below_set ?_ GE335.out) | exact HB.out))); (case aF => exact (fun k_ hk => ⟨(Nat.le_trans (below_size (by repeat (first | (with_reducible first | exact HB.out | apply below_alloc | apply pw_below_drewN | apply below_drew1 | refine below_set ?_ GE306.out | refine below_set ?_ GE319.out | refine below_set ?_ GE320.out | refine below_set ?_ GE335.out) | exact HB.out))) hk), Kd.fresh' (Kd.R_lt (by (with_reducible repeat (first | apply Kd.R_alloc | apply Kd.R_drewN | apply Kd.R_drew)); exact (Kd.R_mono (Kd.R_mono (Kd.R_far (p := ⟨gb320, 3, none⟩) (Kd.R_far (p := ⟨gb320, 2, none⟩) (Kd.R_far (p := ⟨gb320, 1, none⟩) (Kd.R_far (p := ⟨gb320, 0, none⟩) (Kd.R_far (p := ⟨gb335, 3, none⟩) (Kd.R_far (p := ⟨gb335, 2, none⟩) (Kd.R_far (p := ⟨gb335, 1, none⟩) (Kd.R_far (p := ⟨gb335, 0, none⟩) (Kd.R_types (Kd.R_types HO_8.out BK335.out (by decide)) BK320.out (by decide)) (fun _ hk => hk.1.2) (.bool t325)) (fun _ hk => hk.1.2) (.int .u64 t326)) (fun _ hk => hk.1.2) (.int .u64 t327)) (fun _ hk => hk.1.2) (.slice Ao49 t328.length co49)) (fun _ hk => hk.2) (.bool t325)) (fun _ hk => hk.2) (.int .u64 t326)) (fun _ hk => hk.2) (.int .u64 t327)) (fun _ hk => hk.2) (.slice Ao49 t328.length co49)) (fun _ h_ => h_.1)) (fun _ h_ => h_.1)))) k_ hk, Kd.fresh' (Kd.R_lt (by (with_reducible repeat (first | apply Kd.R_alloc | apply Kd.R_drewN | apply Kd.R_drew)); exact (Kd.R_mono (Kd.R_mono (Kd.R_far (p := ⟨gb320, 3, none⟩) (Kd.R_far (p := ⟨gb320, 2, none⟩) (Kd.R_far (p := ⟨gb320, 1, none⟩) (Kd.R_far (p := ⟨gb320, 0, none⟩) (Kd.R_far (p := ⟨gb335, 3, none⟩) (Kd.R_far (p := ⟨gb335, 2, none⟩) (Kd.R_far (p := ⟨gb335, 1, none⟩) (Kd.R_far (p := ⟨gb335, 0, none⟩) (Kd.R_types (Kd.R_types HO333.out BK335.out (by decide)) BK320.out (by decide)) (fun _ hk => hk.1.2) (.bool t325)) (fun _ hk => hk.1.2) (.int .u64 t326)) (fun _ hk => hk.1.2) (.int .u64 t327)) (fun _ hk => hk.1.2) (.slice Ao49 t328.length co49)) (fun _ hk => hk.2) (.bool t325)) (fun _ hk => hk.2) (.int .u64 t326)) (fun _ hk => hk.2) (.int .u64 t327)) (fun _ hk => hk.2) (.slice Ao49 t328.length co49)) (fun _ h_ => h_.1)) (fun _ h_ => h_.1)))) k_ hk⟩)); (case aO => exact (by (with_reducible repeat (first | apply Kd.R_alloc | apply Kd.R_drewN | apply Kd.R_drew)); exact Kd.R_mono (Kd.R_far (p := ⟨gb320, 3, none⟩) (Kd.R_far (p := ⟨gb320, 2, none⟩) (Kd.R_far (p := ⟨gb320, 1, none⟩) (Kd.R_far (p := ⟨gb320, 0, none⟩) (Kd.R_far (p := ⟨gb335, 3, none⟩) (Kd.R_far (p := ⟨gb335, 2, none⟩) (Kd.R_far (p := ⟨gb335, 1, none⟩) (Kd.R_far (p := ⟨gb335, 0, none⟩) (Kd.R_types (Kd.R_types HO_11.out BK335.out (by decide)) BK320.out (by decide)) (fun _ hk => hk.1.2) (.bool t325)) (fun _ hk => hk.1.2) (.int .u64 t326)) (fun _ hk => hk.1.2) (.int .u64 t327)) (fun _ hk => hk.1.2) (.slice Ao49 t328.length co49)) (fun _ hk => hk.2) (.bool t325)) (fun _ hk => hk.2) (.int .u64 t326)) (fun _ hk => hk.2) (.int .u64 t327)) (fun _ hk => hk.2) (.slice Ao49 t328.length co49)) (fun _ hk => ⟨hk.1.1.1, ⟨hk.1.1.2.2, hk.1.1.2.1⟩⟩))); (case aS => exact (below_size (by repeat (first | (with_reducible first | exact HB.out | apply below_alloc | apply pw_below_drewN | apply below_drew1 | refine below_set ?_ GE306.out | refine below_set ?_ GE319.out | refine below_set ?_ GE320.out | refine below_set ?_ GE335.out) | exact HB.out)))); (case aL => have := LMc40.out; omega); intro v337 w58 ho hb hg hat; rw [← Ny336.out] at ho; have n0_ := Aside0.mk (Kd.R_after (ok := (fun k_ => (w.heap.size ≤ k_) ∧ some k_ ≠ (.slice Ao59 t331.length co59 : Value).ownBlock)) (by (with_reducible repeat (first | apply Kd.R_alloc | apply Kd.R_drewN | apply Kd.R_drew)); exact Kd.R_mono (Kd.R_far (p := ⟨gb320, 3, none⟩) (Kd.R_far (p := ⟨gb320, 2, none⟩) (Kd.R_far (p := ⟨gb320, 1, none⟩) (Kd.R_far (p := ⟨gb320, 0, none⟩) (Kd.R_far (p := ⟨gb335, 3, none⟩) (Kd.R_far (p := ⟨gb335, 2, none⟩) (Kd.R_far (p := ⟨gb335, 1, none⟩) (Kd.R_far (p := ⟨gb335, 0, none⟩) (Kd.R_types (Kd.R_types HO_8.out BK335.out (by decide)) BK320.out (by decide)) (fun _ hk => hk.1.2) (.bool t325)) (fun _ hk => hk.1.2) (.int .u64 t326)) (fun _ hk => hk.1.2) (.int .u64 t327)) (fun _ hk => hk.1.2) (.slice Ao49 t328.length co49)) (fun _ hk => hk.2) (.bool t325)) (fun _ hk => hk.2) (.int .u64 t326)) (fun _ hk => hk.2) (.int .u64 t327)) (fun _ hk => hk.2) (.slice Ao49 t328.length co49)) (fun _ hk => ⟨⟨hk.1.1.1, hk.1.1.2.1⟩, hk.1.1.2.2⟩)) hg hat); have n1_ := Aside0.mk (Kd.V_afterv (ok := (fun k_ => (P0_3_ k_ ∨ w.heap.size ≤ k_) ∧ some k_ ≠ (v316 : Value).ownBlock ∧ some k_ ≠ (.slice Ao59 t331.length co59 : Value).ownBlock ∧ k_ ≠ gb306 ∧ k_ ≠ gb319 ∧ k_ ≠ gb320 ∧ k_ ≠ gb335)) (by (with_reducible repeat (first | apply Kd.V_alloc | apply Kd.V_drewN | apply Kd.V_drew)); exact Kd.V_mono (Kd.V_far (p := ⟨gb320, 3, none⟩) (Kd.V_far (p := ⟨gb320, 2, none⟩) (Kd.V_far (p := ⟨gb320, 1, none⟩) (Kd.V_far (p := ⟨gb320, 0, none⟩) (Kd.V_far (p := ⟨gb335, 3, none⟩) (Kd.V_far (p := ⟨gb335, 2, none⟩) (Kd.V_far (p := ⟨gb335, 1, none⟩) (Kd.V_far (p := ⟨gb335, 0, none⟩) (Kd.V_mono (Kd.V_mono HO_307003.out (fun k_ hk => (⟨hk, hk.2.2.2.2.2.2.2⟩ : _ ∧ k_ ≠ gb335))) (fun k_ hk => (⟨hk, hk.1.2.2.2.2.2.2.1⟩ : _ ∧ k_ ≠ gb320))) (fun _ hk => hk.1.2) (.bool t325)) (fun _ hk => hk.1.2) (.int .u64 t326)) (fun _ hk => hk.1.2) (.int .u64 t327)) (fun _ hk => hk.1.2) (.slice Ao49 t328.length co49)) (fun _ hk => hk.2) (.bool t325)) (fun _ hk => hk.2) (.int .u64 t326)) (fun _ hk => hk.2) (.int .u64 t327)) (fun _ hk => hk.2) (.slice Ao49 t328.length co49)) (fun _ hk => ⟨⟨hk.1.1.1, ⟨hk.1.1.2.2.2.1, ⟨hk.1.1.2.1, ⟨hk.1.1.2.2.2.2.1, ⟨hk.1.1.2.2.2.2.2.1, ⟨hk.1.1.2.2.2.2.2.2.1, hk.1.1.2.2.2.2.2.2.2⟩⟩⟩⟩⟩⟩, hk.1.1.2.2.1⟩)) hg hat); have n2_ := Aside0.mk (Kd.V_afterv (ok := (fun k_ => (P0_3_ k_ ∨ w.heap.size ≤ k_) ∧ some k_ ≠ (v316 : Value).ownBlock ∧ some k_ ≠ (.slice Ao59 t331.length co59 : Value).ownBlock ∧ k_ ≠ gb306 ∧ k_ ≠ gb319 ∧ k_ ≠ gb320 ∧ k_ ≠ gb335)) (by (with_reducible repeat (first | apply Kd.V_alloc | apply Kd.V_drewN | apply Kd.V_drew)); exact Kd.V_mono (Kd.V_far (p := ⟨gb320, 3, none⟩) (Kd.V_far (p := ⟨gb320, 2, none⟩) (Kd.V_far (p := ⟨gb320, 1, none⟩) (Kd.V_far (p := ⟨gb320, 0, none⟩) (Kd.V_far (p := ⟨gb335, 3, none⟩) (Kd.V_far (p := ⟨gb335, 2, none⟩) (Kd.V_far (p := ⟨gb335, 1, none⟩) (Kd.V_far (p := ⟨gb335, 0, none⟩) (Kd.V_mono (Kd.V_mono HO_320003.out (fun k_ hk => (⟨hk, hk.2.2.2.2.2.2.2⟩ : _ ∧ k_ ≠ gb335))) (fun k_ hk => (⟨hk, hk.1.2.2.2.2.2.2.1⟩ : _ ∧ k_ ≠ gb320))) (fun _ hk => hk.1.2) (.bool t325)) (fun _ hk => hk.1.2) (.int .u64 t326)) (fun _ hk => hk.1.2) (.int .u64 t327)) (fun _ hk => hk.1.2) (.slice Ao49 t328.length co49)) (fun _ hk => hk.2) (.bool t325)) (fun _ hk => hk.2) (.int .u64 t326)) (fun _ hk => hk.2) (.int .u64 t327)) (fun _ hk => hk.2) (.slice Ao49 t328.length co49)) (fun _ hk => ⟨⟨hk.1.1.1, ⟨hk.1.1.2.2.2.1, ⟨hk.1.1.2.1, ⟨hk.1.1.2.2.2.2.1, ⟨hk.1.1.2.2.2.2.2.1, ⟨hk.1.1.2.2.2.2.2.2.1, hk.1.1.2.2.2.2.2.2.2⟩⟩⟩⟩⟩⟩, hk.1.1.2.2.1⟩)) hg hat); have n3_ := Aside0.mk (Kd.V_afterv (ok := (fun k_ => (P0_3_ k_ ∨ w.heap.size ≤ k_) ∧ some k_ ≠ (v316 : Value).ownBlock ∧ some k_ ≠ (.slice Ao59 t331.length co59 : Value).ownBlock ∧ k_ ≠ gb306 ∧ k_ ≠ gb319 ∧ k_ ≠ gb320 ∧ k_ ≠ gb335)) (by (with_reducible repeat (first | apply Kd.V_alloc | apply Kd.V_drewN | apply Kd.V_drew)); exact Kd.V_mono (Kd.V_far (p := ⟨gb320, 3, none⟩) (Kd.V_far (p := ⟨gb320, 2, none⟩) (Kd.V_far (p := ⟨gb320, 1, none⟩) (Kd.V_far (p := ⟨gb320, 0, none⟩) (Kd.V_far (p := ⟨gb335, 3, none⟩) (Kd.V_far (p := ⟨gb335, 2, none⟩) (Kd.V_far (p := ⟨gb335, 1, none⟩) (Kd.V_far (p := ⟨gb335, 0, none⟩) (Kd.V_mono (Kd.V_mono HO_321003.out (fun k_ hk => (⟨hk, hk.2.2.2.2.2.2.2⟩ : _ ∧ k_ ≠ gb335))) (fun k_ hk => (⟨hk, hk.1.2.2.2.2.2.2.1⟩ : _ ∧ k_ ≠ gb320))) (fun _ hk => hk.1.2) (.bool t325)) (fun _ hk => hk.1.2) (.int .u64 t326)) (fun _ hk => hk.1.2) (.int .u64 t327)) (fun _ hk => hk.1.2) (.slice Ao49 t328.length co49)) (fun _ hk => hk.2) (.bool t325)) (fun _ hk => hk.2) (.int .u64 t326)) (fun _ hk => hk.2) (.int .u64 t327)) (fun _ hk => hk.2) (.slice Ao49 t328.length co49)) (fun _ hk => ⟨⟨hk.1.1.1, ⟨hk.1.1.2.2.2.1, ⟨hk.1.1.2.1, ⟨hk.1.1.2.2.2.2.1, ⟨hk.1.1.2.2.2.2.2.1, ⟨hk.1.1.2.2.2.2.2.2.1, hk.1.1.2.2.2.2.2.2.2⟩⟩⟩⟩⟩⟩, hk.1.1.2.2.1⟩)) hg hat); have n4_ := Aside0.mk (blk_grown (g := gb306) (o := .cells #[.bool a0_0, .int .u64 a0_1, .int .u64 a0_2, .slice (some ad324) l0_3.length c0_3] 26 (0, 0)) (by (with_reducible repeat (first | refine blk_drewN ?_ _ | refine blk_drew ?_ | refine blk_alloc ?_ _)); refine blk_far ?_ NB306_320.out _; (with_reducible repeat (first | refine blk_drewN ?_ _ | refine blk_drew ?_ | refine blk_alloc ?_ _)); refine blk_far ?_ NB306_320.out _; (with_reducible repeat (first | refine blk_drewN ?_ _ | refine blk_drew ?_ | refine blk_alloc ?_ _)); refine blk_far ?_ NB306_320.out _; (with_reducible repeat (first | refine blk_drewN ?_ _ | refine blk_drew ?_ | refine blk_alloc ?_ _)); refine blk_far ?_ NB306_320.out _; (with_reducible repeat (first | refine blk_drewN ?_ _ | refine blk_drew ?_ | refine blk_alloc ?_ _)); refine blk_far ?_ NB306_335.out _; (with_reducible repeat (first | refine blk_drewN ?_ _ | refine blk_drew ?_ | refine blk_alloc ?_ _)); refine blk_far ?_ NB306_335.out _; (with_reducible repeat (first | refine blk_drewN ?_ _ | refine blk_drew ?_ | refine blk_alloc ?_ _)); refine blk_far ?_ NB306_335.out _; (with_reducible repeat (first | refine blk_drewN ?_ _ | refine blk_drew ?_ | refine blk_alloc ?_ _)); refine blk_far ?_ NB306_335.out _; (with_reducible repeat (first | refine blk_drewN ?_ _ | refine blk_drew ?_ | refine blk_alloc ?_ _)); exact BK306.out) hg (Kd.R_ne HO_11.out BK306.out (by decide))); have n5_ := Aside0.mk (blk_grown (g := gb319) (o := .cells #[.bool t309, .int .u64 t310, .int .u64 t311, .slice Ao20 t312.length co20] 26 (0, 0)) (by (with_reducible repeat (first | refine blk_drewN ?_ _ | refine blk_drew ?_ | refine blk_alloc ?_ _)); refine blk_far ?_ NB319_320.out _; (with_reducible repeat (first | refine blk_drewN ?_ _ | refine blk_drew ?_ | refine blk_alloc ?_ _)); refine blk_far ?_ NB319_320.out _; (with_reducible repeat (first | refine blk_drewN ?_ _ | refine blk_drew ?_ | refine blk_alloc ?_ _)); refine blk_far ?_ NB319_320.out _; (with_reducible repeat (first | refine blk_drewN ?_ _ | refine blk_drew ?_ | refine blk_alloc ?_ _)); refine blk_far ?_ NB319_320.out _; (with_reducible repeat (first | refine blk_drewN ?_ _ | refine blk_drew ?_ | refine blk_alloc ?_ _)); refine blk_far ?_ NB319_335.out _; (with_reducible repeat (first | refine blk_drewN ?_ _ | refine blk_drew ?_ | refine blk_alloc ?_ _)); refine blk_far ?_ NB319_335.out _; (with_reducible repeat (first | refine blk_drewN ?_ _ | refine blk_drew ?_ | refine blk_alloc ?_ _)); refine blk_far ?_ NB319_335.out _; (with_reducible repeat (first | refine blk_drewN ?_ _ | refine blk_drew ?_ | refine blk_alloc ?_ _)); refine blk_far ?_ NB319_335.out _; (with_reducible repeat (first | refine blk_drewN ?_ _ | refine blk_drew ?_ | refine blk_alloc ?_ _)); exact BK319.out) hg (Kd.R_ne HO_11.out BK319.out (by decide))); have n6_ := Aside0.mk (blk_grown (g := gb320) (o := .cells #[.bool t325, .int .u64 t326, .int .u64 t327, .slice Ao49 t328.length co49] 26 (0, 0)) (by (with_reducible repeat (first | refine blk_drewN ?_ _ | refine blk_drew ?_ | refine blk_alloc ?_ _)); refine blk_put (cs := #[.bool t325, .int .u64 t326, .int .u64 t327, .slice Ao41 x321003_2.length co41]) ?_ 3 _ rfl; (with_reducible repeat (first | refine blk_drewN ?_ _ | refine blk_drew ?_ | refine blk_alloc ?_ _)); refine blk_put (cs := #[.bool t325, .int .u64 t326, .int .u64 x321002_2, .slice Ao41 x321003_2.length co41]) ?_ 2 _ rfl; (with_reducible repeat (first | refine blk_drewN ?_ _ | refine blk_drew ?_ | refine blk_alloc ?_ _)); refine blk_put (cs := #[.bool t325, .int .u64 x321001_2, .int .u64 x321002_2, .slice Ao41 x321003_2.length co41]) ?_ 1 _ rfl; (with_reducible repeat (first | refine blk_drewN ?_ _ | refine blk_drew ?_ | refine blk_alloc ?_ _)); refine blk_put (cs := #[.bool x321000_2, .int .u64 x321001_2, .int .u64 x321002_2, .slice Ao41 x321003_2.length co41]) ?_ 0 _ rfl; (with_reducible repeat (first | refine blk_drewN ?_ _ | refine blk_drew ?_ | refine blk_alloc ?_ _)); refine blk_far ?_ NB320_335.out _; (with_reducible repeat (first | refine blk_drewN ?_ _ | refine blk_drew ?_ | refine blk_alloc ?_ _)); refine blk_far ?_ NB320_335.out _; (with_reducible repeat (first | refine blk_drewN ?_ _ | refine blk_drew ?_ | refine blk_alloc ?_ _)); refine blk_far ?_ NB320_335.out _; (with_reducible repeat (first | refine blk_drewN ?_ _ | refine blk_drew ?_ | refine blk_alloc ?_ _)); refine blk_far ?_ NB320_335.out _; (with_reducible repeat (first | refine blk_drewN ?_ _ | refine blk_drew ?_ | refine blk_alloc ?_ _)); exact BK320.out) hg (Kd.R_ne HO_11.out BK320.out (by decide))); have n7_ := Aside0.mk (Kd.V_afterv (ok := (fun k_ => (P0_3_ k_ ∨ w.heap.size ≤ k_) ∧ some k_ ≠ (v316 : Value).ownBlock ∧ some k_ ≠ (.slice Ao59 t331.length co59 : Value).ownBlock ∧ k_ ≠ gb306 ∧ k_ ≠ gb319 ∧ k_ ≠ gb320 ∧ k_ ≠ gb335)) (by (with_reducible repeat (first | apply Kd.V_alloc | apply Kd.V_drewN | apply Kd.V_drew)); exact Kd.V_mono (Kd.V_far (p := ⟨gb320, 3, none⟩) (Kd.V_far (p := ⟨gb320, 2, none⟩) (Kd.V_far (p := ⟨gb320, 1, none⟩) (Kd.V_far (p := ⟨gb320, 0, none⟩) (Kd.V_far (p := ⟨gb335, 3, none⟩) (Kd.V_far (p := ⟨gb335, 2, none⟩) (Kd.V_far (p := ⟨gb335, 1, none⟩) (Kd.V_far (p := ⟨gb335, 0, none⟩) (Kd.V_mono (Kd.V_mono HO330.out (fun k_ hk => (⟨hk, hk.2.2.2.2.2.2.2⟩ : _ ∧ k_ ≠ gb335))) (fun k_ hk => (⟨hk, hk.1.2.2.2.2.2.2.1⟩ : _ ∧ k_ ≠ gb320))) (fun _ hk => hk.1.2) (.bool t325)) (fun _ hk => hk.1.2) (.int .u64 t326)) (fun _ hk => hk.1.2) (.int .u64 t327)) (fun _ hk => hk.1.2) (.slice Ao49 t328.length co49)) (fun _ hk => hk.2) (.bool t325)) (fun _ hk => hk.2) (.int .u64 t326)) (fun _ hk => hk.2) (.int .u64 t327)) (fun _ hk => hk.2) (.slice Ao49 t328.length co49)) (fun _ hk => ⟨⟨hk.1.1.1, ⟨hk.1.1.2.2.2.1, ⟨hk.1.1.2.1, ⟨hk.1.1.2.2.2.2.1, ⟨hk.1.1.2.2.2.2.2.1, ⟨hk.1.1.2.2.2.2.2.2.1, hk.1.1.2.2.2.2.2.2.2⟩⟩⟩⟩⟩⟩, hk.1.1.2.2.1⟩)) hg hat); have n8_ := Aside0.mk (Kd.R_after (ok := (fun k_ => (w.heap.size ≤ k_) ∧ some k_ ≠ (v316 : Value).ownBlock)) (by (with_reducible repeat (first | apply Kd.R_alloc | apply Kd.R_drewN | apply Kd.R_drew)); exact Kd.R_mono (Kd.R_far (p := ⟨gb320, 3, none⟩) (Kd.R_far (p := ⟨gb320, 2, none⟩) (Kd.R_far (p := ⟨gb320, 1, none⟩) (Kd.R_far (p := ⟨gb320, 0, none⟩) (Kd.R_far (p := ⟨gb335, 3, none⟩) (Kd.R_far (p := ⟨gb335, 2, none⟩) (Kd.R_far (p := ⟨gb335, 1, none⟩) (Kd.R_far (p := ⟨gb335, 0, none⟩) (Kd.R_types (Kd.R_types HO333.out BK335.out (by decide)) BK320.out (by decide)) (fun _ hk => hk.1.2) (.bool t325)) (fun _ hk => hk.1.2) (.int .u64 t326)) (fun _ hk => hk.1.2) (.int .u64 t327)) (fun _ hk => hk.1.2) (.slice Ao49 t328.length co49)) (fun _ hk => hk.2) (.bool t325)) (fun _ hk => hk.2) (.int .u64 t326)) (fun _ hk => hk.2) (.int .u64 t327)) (fun _ hk => hk.2) (.slice Ao49 t328.length co49)) (fun _ hk => ⟨⟨hk.1.1.1, hk.1.1.2.2⟩, hk.1.1.2.1⟩)) hg hat); have n9_ := Aside0.mk (blk_grown (g := gb335) (o := .cells #[.bool t325, .int .u64 t326, .int .u64 t327, .slice Ao49 t328.length co49] 26 (0, 0)) (by (with_reducible repeat (first | refine blk_drewN ?_ _ | refine blk_drew ?_ | refine blk_alloc ?_ _)); refine blk_far ?_ NB335_320.out _; (with_reducible repeat (first | refine blk_drewN ?_ _ | refine blk_drew ?_ | refine blk_alloc ?_ _)); refine blk_far ?_ NB335_320.out _; (with_reducible repeat (first | refine blk_drewN ?_ _ | refine blk_drew ?_ | refine blk_alloc ?_ _)); refine blk_far ?_ NB335_320.out _; (with_reducible repeat (first | refine blk_drewN ?_ _ | refine blk_drew ?_ | refine blk_alloc ?_ _)); refine blk_far ?_ NB335_320.out _; (with_reducible repeat (first | refine blk_drewN ?_ _ | refine blk_drew ?_ | refine blk_alloc ?_ _)); refine blk_put (cs := #[.bool t325, .int .u64 t326, .int .u64 t327, .slice none 0 0]) ?_ 3 _ rfl; (with_reducible repeat (first | refine blk_drewN ?_ _ | refine blk_drew ?_ | refine blk_alloc ?_ _)); refine blk_put (cs := #[.bool t325, .int .u64 t326, .int .u64 0, .slice none 0 0]) ?_ 2 _ rfl; (with_reducible repeat (first | refine blk_drewN ?_ _ | refine blk_drew ?_ | refine blk_alloc ?_ _)); refine blk_put (cs := #[.bool t325, .int .u64 0, .int .u64 0, .slice none 0 0]) ?_ 1 _ rfl; (with_reducible repeat (first | refine blk_drewN ?_ _ | refine blk_drew ?_ | refine blk_alloc ?_ _)); refine blk_put (cs := #[.bool false, .int .u64 0, .int .u64 0, .slice none 0 0]) ?_ 0 _ rfl; (with_reducible repeat (first | refine blk_drewN ?_ _ | refine blk_drew ?_ | refine blk_alloc ?_ _)); exact BK335.out) hg (Kd.R_ne HO_11.out BK335.out (by decide))); have n10_ := Aside0.mk (hb); have n11_ := Aside0.mk (ho); clear HO_8; clear HO_307003; clear HO_320003; clear HO_321003; clear BK306; clear BK319; clear BK320; clear HO330; clear HO333; clear BK335; clear HB; clear HO_11; have HO_8 := n0_; have HO_307003 := n1_; have HO_320003 := n2_; have HO_321003 := n3_; have BK306 := n4_; have BK319 := n5_; have BK320 := n6_; have HO330 := n7_; have HO333 := n8_; have BK335 := n9_; have HB := n10_; have HO338 := n11_; clear n0_ n1_ n2_ n3_ n4_ n5_ n6_ n7_ n8_ n9_ n10_ n11_; clear ho hb hg hat))
                              go_roundg kj26
                              case measure => have := HJ4.out; have := HK2.out; have := HJ26.out; omega
                              case rel => exact ⟨(y336), (wrap64 (x12_2 + 1)), (t325), (t326), (t327), (t328), (.slice Ao49 t328.length co49), (by first | rfl | (simp; done) | (simp [*]; done)), H', ⟨by have := HJ4.out; have := HK2.out; have := HJ26.out; omega⟩, ⟨by (with_reducible repeat (first | apply Kd.R_alloc | apply Kd.R_drewN | apply Kd.R_drew)); exact Kd.R_mono HO_8.out (fun _ hk => ⟨hk.1.1, hk.2⟩)⟩, ⟨by (with_reducible repeat (first | apply Kd.R_alloc | apply Kd.R_drewN | apply Kd.R_drew)); exact Kd.R_mono HO338.out (fun _ hk => ⟨hk.1, hk.2.1⟩)⟩, ⟨by (with_reducible repeat (first | apply Kd.V_alloc | apply Kd.V_drewN | apply Kd.V_drew)); exact Kd.V_mono HO_307003.out (fun _ hk => ⟨hk.1.1, ⟨hk.1.2.1, ⟨hk.2, ⟨hk.1.2.2.2.1, ⟨hk.1.2.2.2.2.1, hk.1.2.2.2.2.2.1⟩⟩⟩⟩⟩)⟩, ⟨by (with_reducible repeat (first | apply Kd.V_alloc | apply Kd.V_drewN | apply Kd.V_drew)); exact Kd.V_mono HO_320003.out (fun _ hk => ⟨hk.1.1, ⟨hk.1.2.1, ⟨hk.2, ⟨hk.1.2.2.2.1, ⟨hk.1.2.2.2.2.1, hk.1.2.2.2.2.2.1⟩⟩⟩⟩⟩)⟩, ⟨by (with_reducible repeat (first | apply Kd.V_alloc | apply Kd.V_drewN | apply Kd.V_drew)); exact Kd.V_mono HO330.out (fun _ hk => ⟨hk.1.1, ⟨hk.1.2.1, ⟨hk.2, ⟨hk.1.2.2.2.1, ⟨hk.1.2.2.2.2.1, hk.1.2.2.2.2.2.1⟩⟩⟩⟩⟩)⟩, ⟨by (with_reducible repeat (first | refine blk_drewN ?_ _ | refine blk_drew ?_ | refine blk_alloc ?_ _)); exact BK306.out⟩, ⟨by (with_reducible repeat (first | refine blk_drewN ?_ _ | refine blk_drew ?_ | refine blk_alloc ?_ _)); exact BK319.out⟩, ⟨by (with_reducible repeat (first | refine blk_drewN ?_ _ | refine blk_drew ?_ | refine blk_alloc ?_ _)); exact BK320.out⟩, ⟨by repeat (first | (with_reducible first | exact HB.out | apply below_alloc | apply pw_below_drewN | apply below_drew1 | refine below_set ?_ GE306.out | refine below_set ?_ GE319.out | refine below_set ?_ GE320.out | refine below_set ?_ GE335.out) | exact HB.out)⟩⟩
                            · rw [if_neg c40] at H
                              exact absurd H (by simp)
                          · rw [if_neg c39] at H
                            exact absurd ((Option.some.inj H).trans hT_.out) (by decide)
                        · rw [if_neg c37] at H
                          exact absurd H (by simp)
                      · rw [if_neg c36] at H
                        exact absurd H (by simp)
              · rw [if_neg c26] at H
                have c26b0 : decide (x12_2 < (l0_3.length : Int)) = false := decide_eq_false c26
                clear c26
                have c60 : true = true := rfl
                · clear c60
                  have H1 : ((interchangeref15_Nums.f k2 x11_2 t315).bind fun t321 => (if t321 = true then ((seq_Same.f k2 x321000_2 x321001_2 x321002_2 x321003_2 t309 t310 t311 t312).bind fun t322 => (some t322)) else (some false))) = some r := by first | (rw [if_pos rfl] at H; exact H) | (rw [if_pos trivial] at H; exact H)
                  clear H
                  have H := H1
                  clear H1
                  replace H := Option.bind_eq_some_iff.mp H
                  obtain ⟨t321, A610, H⟩ := H
                  replace H : (if t321 = true then ((seq_Same.f k2 x321000_2 x321001_2 x321002_2 x321003_2 t309 t310 t311 t312).bind fun t322 => (some t322)) else (some false)) = some r := H
                  have A61 := Aside0.mk A610
                  clear A610
                  by_cases c62 : t321 = true
                  · subst c62
                    have H1 : ((seq_Same.f k2 x321000_2 x321001_2 x321002_2 x321003_2 t309 t310 t311 t312).bind fun t322 => (some t322)) = some r := by rw [if_pos rfl] at H; exact H
                    clear H
                    have H := H1
                    clear H1
                    replace H := Option.bind_eq_some_iff.mp H
                    obtain ⟨t322, A630, H⟩ := H
                    replace H : (some t322) = some r := H
                    have A63 := Aside0.mk A630
                    clear A630
                    replace H : (if t322 = true then (some true) else (some false)) = some r := by
                      rw [← H]
                      by_cases hc_ : t322 = true
                      · rw [if_pos hc_]; exact congrArg some (Eq.symm (by first | exact decide_eq_true hc_ | exact beq_iff_eq.mpr hc_ | exact hc_ | (simp [hc_]; done) | simp_all))
                      · rw [if_neg hc_]; exact congrArg some (Eq.symm (by first | exact decide_eq_false hc_ | exact beq_eq_false_iff_ne.mpr hc_ | exact Bool.eq_false_iff.mpr hc_ | (simp [hc_]; done) | simp_all))
                    by_cases c64 : t322 = true
                    · subst c64
                      have H1 : (some true) = some r := by rw [if_pos rfl] at H; exact H
                      clear H
                      have H := H1
                      clear H1
                      obtain rfl := Option.some.inj H
                      have hnb65 := NB306_319.out
                      have hnc65 := NB319_306.out
                      have hnb66 := NB306_320.out
                      have hnc66 := NB320_306.out
                      have hcz67_0 : wr.cell? ⟨gb306, 0, none⟩ = some (.bool a0_0) := (blk_cell BK306.out 0).trans rfl
                      have hcz67_1 : wr.cell? ⟨gb306, 1, none⟩ = some (.int .u64 a0_1) := (blk_cell BK306.out 1).trans rfl
                      have hcz67_2 : wr.cell? ⟨gb306, 2, none⟩ = some (.int .u64 a0_2) := (blk_cell BK306.out 2).trans rfl
                      have hcz67_3 : wr.cell? ⟨gb306, 3, none⟩ = some (.slice A0_3 l0_3.length c0_3) := (blk_cell BK306.out 3).trans rfl
                      have hfz67_0 := blk_frozen BK306.out 0
                      have hfz67_1 := blk_frozen BK306.out 1
                      have hfz67_2 := blk_frozen BK306.out 2
                      have hfz67_3 := blk_frozen BK306.out 3
                      obtain ⟨Ao68, co68, eo68⟩ := Kd.R_slice HO_11.out
                      subst eo68
                      obtain ⟨Ao69, co69, eo69⟩ := Kd.R_slice HO_8.out
                      subst eo69
                      go_wp2_with (first | (go_at_call 16; (with_reducible refine (interchangeref15_Nums.calls k2 _ _ x11_2 _ _ t315 true _ ?side1 ?side2 ?side3 ?side4 A61.out).mono ?_); (case side1 => repeat (first | exact (Kd.R_reads' HO_11.out).2.2 | (with_reducible refine Kd.C_alloc ?_ _) | (with_reducible refine Kd.C_drewN ?_ _) | (with_reducible refine Kd.C_drew ?_))); (case side2 => exact (Kd.R_reads' HO_11.out).2.1); (case side3 => repeat (first | exact (Kd.R_reads' HO_8.out).2.2 | (with_reducible refine Kd.C_alloc ?_ _) | (with_reducible refine Kd.C_drewN ?_ _) | (with_reducible refine Kd.C_drew ?_))); (case side4 => exact (Kd.R_reads' HO_8.out).2.1); rintro e w' ⟨rfl, ⟨nd, rfl⟩⟩; have hnb70 := NB320_319.out; have hnc70 := NB319_320.out; have hcz71_0 : wr.cell? ⟨gb320, 0, none⟩ = some (.bool x321000_2) := (blk_cell BK320.out 0).trans rfl; have hcz71_1 : wr.cell? ⟨gb320, 1, none⟩ = some (.int .u64 x321001_2) := (blk_cell BK320.out 1).trans rfl; have hcz71_2 : wr.cell? ⟨gb320, 2, none⟩ = some (.int .u64 x321002_2) := (blk_cell BK320.out 2).trans rfl; have hcz71_3 : wr.cell? ⟨gb320, 3, none⟩ = some (u321003) := (blk_cell BK320.out 3).trans rfl; have hfz71_0 := blk_frozen BK320.out 0; have hfz71_1 := blk_frozen BK320.out 1; have hfz71_2 := blk_frozen BK320.out 2; have hfz71_3 := blk_frozen BK320.out 3; have hcz72_0 : wr.cell? ⟨gb319, 0, none⟩ = some (.bool t309) := (blk_cell BK319.out 0).trans rfl; have hcz72_1 : wr.cell? ⟨gb319, 1, none⟩ = some (.int .u64 t310) := (blk_cell BK319.out 1).trans rfl; have hcz72_2 : wr.cell? ⟨gb319, 2, none⟩ = some (.int .u64 t311) := (blk_cell BK319.out 2).trans rfl; have hcz72_3 : wr.cell? ⟨gb319, 3, none⟩ = some (.slice Ao20 t312.length co20) := (blk_cell BK319.out 3).trans rfl; have hfz72_0 := blk_frozen BK319.out 0; have hfz72_1 := blk_frozen BK319.out 1; have hfz72_2 := blk_frozen BK319.out 2; have hfz72_3 := blk_frozen BK319.out 3; obtain ⟨Ao73, co73, eo73⟩ := Kd.V_slice HO_321003.out; subst eo73) | (go_at_call 15; (with_reducible refine (seq_Same.calls k2 x321000_2 x321001_2 x321002_2 _ _ x321003_2 t309 t310 t311 _ _ t312 true _ ?side1 ?side2 ?side3 ?side4 A63.out).mono ?_); (case side1 => repeat (first | exact (Kd.V_reads' HO_321003.out).2.2 | (with_reducible refine Kd.C_alloc ?_ _) | (with_reducible refine Kd.C_drewN ?_ _) | (with_reducible refine Kd.C_drew ?_))); (case side2 => exact (Kd.V_reads' HO_321003.out).2.1); (case side3 => repeat (first | exact (Kd.V_reads' HO_320003.out).2.2 | (with_reducible refine Kd.C_alloc ?_ _) | (with_reducible refine Kd.C_drewN ?_ _) | (with_reducible refine Kd.C_drew ?_))); (case side4 => exact (Kd.V_reads' HO_320003.out).2.1); rintro e w74 ⟨rfl, hb⟩; have n0_ := Aside0.mk (Kd.R_below (by (with_reducible repeat (first | apply Kd.R_alloc | apply Kd.R_drewN | apply Kd.R_drew)); exact HO_8.out) hb); have n1_ := Aside0.mk (Kd.R_below (by (with_reducible repeat (first | apply Kd.R_alloc | apply Kd.R_drewN | apply Kd.R_drew)); exact HO_11.out) hb); have n2_ := Aside0.mk (Kd.V_below (by (with_reducible repeat (first | apply Kd.V_alloc | apply Kd.V_drewN | apply Kd.V_drew)); exact HO_307003.out) hb); have n3_ := Aside0.mk (Kd.V_below (by (with_reducible repeat (first | apply Kd.V_alloc | apply Kd.V_drewN | apply Kd.V_drew)); exact HO_320003.out) hb); have n4_ := Aside0.mk (Kd.V_below (by (with_reducible repeat (first | apply Kd.V_alloc | apply Kd.V_drewN | apply Kd.V_drew)); exact HO_321003.out) hb); have n5_ := Aside0.mk (blk_below (g := gb306) (o := .cells #[.bool a0_0, .int .u64 a0_1, .int .u64 a0_2, .slice A0_3 l0_3.length c0_3] 26 (0, 0)) (by (with_reducible repeat (first | refine blk_drewN ?_ _ | refine blk_drew ?_ | refine blk_alloc ?_ _)); exact BK306.out) hb); have n6_ := Aside0.mk (blk_below (g := gb319) (o := .cells #[.bool t309, .int .u64 t310, .int .u64 t311, .slice Ao20 t312.length co20] 26 (0, 0)) (by (with_reducible repeat (first | refine blk_drewN ?_ _ | refine blk_drew ?_ | refine blk_alloc ?_ _)); exact BK319.out) hb); have n7_ := Aside0.mk (blk_below (g := gb320) (o := .cells #[.bool x321000_2, .int .u64 x321001_2, .int .u64 x321002_2, .slice Ao73 x321003_2.length co73] 26 (0, 0)) (by (with_reducible repeat (first | refine blk_drewN ?_ _ | refine blk_drew ?_ | refine blk_alloc ?_ _)); exact BK320.out) hb); have n8_ := Aside0.mk (below_step (by repeat (first | (with_reducible first | exact HB.out | apply below_alloc | apply pw_below_drewN | apply below_drew1 | refine below_set ?_ GE306.out | refine below_set ?_ GE319.out | refine below_set ?_ GE320.out) | exact HB.out)) hb); clear HO_8; clear HO_11; clear HO_307003; clear HO_320003; clear HO_321003; clear BK306; clear BK319; clear BK320; clear HB; have HO_8 := n0_; have HO_11 := n1_; have HO_307003 := n2_; have HO_320003 := n3_; have HO_321003 := n4_; have BK306 := n5_; have BK319 := n6_; have BK320 := n7_; have HB := n8_; clear n0_ n1_ n2_ n3_ n4_ n5_ n6_ n7_ n8_; (try clear hb); (try clear hb2); (try clear hk); (try clear hi)))
                      go_ret
                      exact ⟨by first | rfl | (simp [errW_none, errW_some] <;> rfl) | (simp [*, errW_none, errW_some] <;> rfl) | (exfalso; simp only [decide_eq_true_eq, decide_eq_false_iff_not, beq_iff_eq, bne_iff_ne, ne_eq, beq_eq_false_iff_ne, bne_eq_false_iff_eq] at *; omega), by repeat (first | (with_reducible first | exact HB.out | apply below_alloc | apply pw_below_drewN | apply below_drew1 | refine below_set ?_ GE306.out | refine below_set ?_ GE319.out | refine below_set ?_ GE320.out) | exact HB.out)⟩
                    · replace c64 := Bool.eq_false_iff.mpr c64
                      subst c64
                      have H1 : (some false) = some r := by rw [if_neg (show ¬ (false = true) by decide)] at H; exact H
                      clear H
                      have H := H1
                      clear H1
                      exact absurd ((Option.some.inj H).trans hT_.out) (by decide)
                  · replace c62 := Bool.eq_false_iff.mpr c62
                    subst c62
                    have H1 : (some false) = some r := by rw [if_neg (show ¬ (false = true) by decide)] at H; exact H
                    clear H
                    have H := H1
                    clear H1
                    exact absurd ((Option.some.inj H).trans hT_.out) (by decide)
        · rw [if_neg c14] at H
          have c14b0 : (t318 == 0) = false := beq_eq_false_iff_ne.mpr c14
          have c14b1 : (t318 != 0) = true := bne_iff_ne.mpr c14
          obtain rfl := Option.some.inj H
          have hcz75_0 : wc.cell? ⟨gb306, 0, none⟩ = some (.bool a0_0) := (blk_cell BK306.out 0).trans rfl
          have hcz75_1 : wc.cell? ⟨gb306, 1, none⟩ = some (.int .u64 a0_1) := (blk_cell BK306.out 1).trans rfl
          have hcz75_2 : wc.cell? ⟨gb306, 2, none⟩ = some (.int .u64 a0_2) := (blk_cell BK306.out 2).trans rfl
          have hcz75_3 : wc.cell? ⟨gb306, 3, none⟩ = some (.slice A0_3 l0_3.length c0_3) := (blk_cell BK306.out 3).trans rfl
          have hfz75_0 := blk_frozen BK306.out 0
          have hfz75_1 := blk_frozen BK306.out 1
          have hfz75_2 := blk_frozen BK306.out 2
          have hfz75_3 := blk_frozen BK306.out 3
          go_wp2_with (first | ((with_reducible refine gate_callee (f := 12) rfl ?_); refine goesL_ (some 31) rfl rfl Try.func12 (by kernel_rfl) rfl #[.agg #[.bool a0_0, .int .u64 a0_1, .int .u64 a0_2, .slice A0_3 l0_3.length c0_3], .int .u64 a1, .bool true] rfl (by (try simp only [List.map_toArray, List.map_cons, List.map_nil]); first | done | rfl | (simp only [List.length_drop, List.length_take]; rfl)) ?_; (with_reducible refine (seq_Confirm.calls a0_0 a0_1 a0_2 (fun k_ => ((P0_3_ k_ ∨ w.heap.size ≤ k_) ∧ k_ ≠ gb306)) _ _ l0_3 a1 true t309 t310 t311 t312 t315 t318 _ ?side1 A13.out).mono ?_); (case side1 => exact HO_307003.out); rintro e w76 ⟨v313, v316, rfl, ho0, ho1, hb⟩; refine ⟨_, rfl, ?_⟩; have n0_ := Aside0.mk (Kd.V_elder' (by (with_reducible repeat (first | apply Kd.V_alloc | apply Kd.V_drewN | apply Kd.V_drew)); exact HO_307003.out) (Kd.R_base ho1) hb); have n1_ := Aside0.mk (Kd.V_lower (Kd.V_mono (ok' := fun k_ => (P0_3_ k_ ∨ w.heap.size ≤ k_) ∧ some k_ ≠ (v316 : Value).ownBlock ∧ k_ ≠ gb306) ho0 (fun k_ hk_ => ⟨Or.elim hk_.1 (fun hs_ => hs_.1) (fun hn_ => (.inr (Nat.le_trans (below_size (by repeat (first | (with_reducible first | exact HB.out | apply below_alloc | apply pw_below_drewN | apply below_drew1 | refine below_set ?_ GE306.out) | exact HB.out))) hn_))), hk_.2, Or.elim hk_.1 (fun hs_ => hs_.2) (fun hn_ => (Kd.freshB (g := gb306) (o := .cells #[.bool a0_0, .int .u64 a0_1, .int .u64 a0_2, .slice A0_3 l0_3.length c0_3] 26 (0, 0)) (by (with_reducible repeat (first | refine blk_drewN ?_ _ | refine blk_drew ?_ | refine blk_alloc ?_ _)); exact BK306.out) k_ hn_))⟩)) (below_size (by repeat (first | (with_reducible first | exact HB.out | apply below_alloc | apply pw_below_drewN | apply below_drew1 | refine below_set ?_ GE306.out) | exact HB.out)))); have n2_ := Aside0.mk (Kd.R_lower (Kd.R_newM (M := fun k_ => (w.heap.size ≤ k_)) (Kd.R_mono (ok' := fun k_ => True) ho1 (fun _ hk_ => trivial)) (below_size (by repeat (first | (with_reducible first | exact HB.out | apply below_alloc | apply pw_below_drewN | apply below_drew1 | refine below_set ?_ GE306.out) | exact HB.out))) (fun k_ h_ => h_)) (below_size (by repeat (first | (with_reducible first | exact HB.out | apply below_alloc | apply pw_below_drewN | apply below_drew1 | refine below_set ?_ GE306.out) | exact HB.out)))); have n3_ := Aside0.mk (blk_below (g := gb306) (o := .cells #[.bool a0_0, .int .u64 a0_1, .int .u64 a0_2, .slice A0_3 l0_3.length c0_3] 26 (0, 0)) (by (with_reducible repeat (first | refine blk_drewN ?_ _ | refine blk_drew ?_ | refine blk_alloc ?_ _)); exact BK306.out) hb); have n4_ := Aside0.mk (below_step (by repeat (first | (with_reducible first | exact HB.out | apply below_alloc | apply pw_below_drewN | apply below_drew1 | refine below_set ?_ GE306.out) | exact HB.out)) hb); clear HO_307003; clear BK306; clear HB; have HO_307003 := n0_; have HO314 := n1_; have HO317 := n2_; have BK306 := n3_; have HB := n4_; clear n0_ n1_ n2_ n3_ n4_; (try clear hb); (try clear hb2); (try clear hk); (try clear hi); (try clear ho0); (try clear ho1)) | ((with_reducible refine gate_dst (N := 7) rfl ?_); (try (refine gate_guard (by rfl) ?_; dsimp only)); refine box_event ?hg (N := 7) ?hd (cs := #[.bool false, .int .u64 0, .int .u64 0, .slice none 0 0]) (t := 26) ?hr ?_; (case hd => rfl); (case hg => rfl); (case hr => first | (go_simp; done) | (go_simp; rfl)); intro gb319 hg w77 hbox hb; have n0_ := Aside0.mk (Kd.V_below (Kd.V_elderB (by (with_reducible repeat (first | apply Kd.V_alloc | apply Kd.V_drewN | apply Kd.V_drew)); exact HO_307003.out) gb319 (Nat.le_of_eq hg.symm)) hb); have n1_ := Aside0.mk (Kd.V_below (Kd.V_elderB (by (with_reducible repeat (first | apply Kd.V_alloc | apply Kd.V_drewN | apply Kd.V_drew)); exact HO314.out) gb319 (Nat.le_of_eq hg.symm)) hb); have n2_ := Aside0.mk (Kd.R_below (by (with_reducible repeat (first | apply Kd.R_alloc | apply Kd.R_drewN | apply Kd.R_drew)); exact HO317.out) hb); have n3_ := Aside0.mk (blk_below (g := gb306) (o := .cells #[.bool a0_0, .int .u64 a0_1, .int .u64 a0_2, .slice A0_3 l0_3.length c0_3] 26 (0, 0)) (by (with_reducible repeat (first | refine blk_drewN ?_ _ | refine blk_drew ?_ | refine blk_alloc ?_ _)); exact BK306.out) hb); have n4_ := Aside0.mk (below_step (by repeat (first | (with_reducible first | exact HB.out | apply below_alloc | apply pw_below_drewN | apply below_drew1 | refine below_set ?_ GE306.out) | exact HB.out)) hb); have n5_ := Aside0.mk (hbox); have n6_ := Aside0.mk ((by rw [hg]; exact (below_size (by repeat (first | (with_reducible first | exact HB.out | apply below_alloc | apply pw_below_drewN | apply below_drew1 | refine below_set ?_ GE306.out) | exact HB.out))) : w.heap.size ≤ gb319)); have n7_ := Aside0.mk ((by rw [hg]; exact (below_size (by repeat (first | (with_reducible first | exact HB.out | apply below_alloc | apply pw_below_drewN | apply below_drew1 | refine below_set ?_ GE306.out) | exact HB.out))) : w.heap.size ≤ gb319)); have n8_ := Aside0.mk ((by rw [hg]; exact Nat.ne_of_lt (blk_lt (g := gb306) (o := .cells #[.bool a0_0, .int .u64 a0_1, .int .u64 a0_2, .slice A0_3 l0_3.length c0_3] 26 (0, 0)) (by (with_reducible repeat (first | refine blk_drewN ?_ _ | refine blk_drew ?_ | refine blk_alloc ?_ _)); exact BK306.out)) : gb306 ≠ gb319)); have n9_ := Aside0.mk ((by rw [hg]; exact Nat.ne_of_gt (blk_lt (g := gb306) (o := .cells #[.bool a0_0, .int .u64 a0_1, .int .u64 a0_2, .slice A0_3 l0_3.length c0_3] 26 (0, 0)) (by (with_reducible repeat (first | refine blk_drewN ?_ _ | refine blk_drew ?_ | refine blk_alloc ?_ _)); exact BK306.out)) : gb319 ≠ gb306)); clear HO_307003; clear HO314; clear HO317; clear BK306; clear HB; have HO_307003 := n0_; have HO314 := n1_; have HO317 := n2_; have BK306 := n3_; have HB := n4_; have BK319 := n5_; have GW319 := n6_; have GE319 := n7_; have NB306_319 := n8_; have NB319_306 := n9_; clear n0_ n1_ n2_ n3_ n4_ n5_ n6_ n7_ n8_ n9_; clear hb hbox hg; have hnb78 := NB319_306.out; have hnc78 := NB306_319.out; have hcz79_0 : w77.cell? ⟨gb319, 0, none⟩ = some (.bool false) := (blk_cell BK319.out 0).trans rfl; have hcz79_1 : w77.cell? ⟨gb319, 1, none⟩ = some (.int .u64 0) := (blk_cell BK319.out 1).trans rfl; have hcz79_2 : w77.cell? ⟨gb319, 2, none⟩ = some (.int .u64 0) := (blk_cell BK319.out 2).trans rfl; have hcz79_3 : w77.cell? ⟨gb319, 3, none⟩ = some (.slice none 0 0) := (blk_cell BK319.out 3).trans rfl; have hfz79_0 := blk_frozen BK319.out 0; have hfz79_1 := blk_frozen BK319.out 1; have hfz79_2 := blk_frozen BK319.out 2; have hfz79_3 := blk_frozen BK319.out 3; obtain ⟨Ao80, co80, eo80⟩ := Kd.V_slice HO314.out; subst eo80))
          go_ret
          exact ⟨by first | rfl | (simp [errW_none, errW_some] <;> rfl) | (simp [*, errW_none, errW_some] <;> rfl) | (exfalso; simp only [decide_eq_true_eq, decide_eq_false_iff_not, beq_iff_eq, bne_iff_ne, ne_eq, beq_eq_false_iff_ne, bne_eq_false_iff_eq] at *; omega), by repeat (first | (with_reducible first | exact HB.out | apply below_alloc | apply pw_below_drewN | apply below_drew1 | refine below_set ?_ GE306.out | refine below_set ?_ GE319.out) | exact HB.out)⟩

end Go.Proofs.Ytngbkagamhakiaa.Q
