/- This text was written by a program of this session: what each Go function computes, as a Lean function, and that its call does so. -/
import Derived.Test.YtoljcjlflanflaaQ0
import Derived.Test.YtoljcjlflanflaaV
import Derived.Test.YtoljcjlflanflaaQ10
import Derived.Test.YtoljcjlflanflaaQ16
import Derived.Test.YtoljcjlflanflaaQ17
import Derived.Test.YtoljcjlflanflaaQ9
import Derived.Test.YtoljcjlflanflaaH9
import Derived.Test.YtoljcjlflanflaaH12
namespace Go.Proofs.Ytoljcjlflanflaa.Q
open Go.RowKit Go.Proofs.YtoljcjlflanflaaW.PrintWords Go.Proofs.YtoljcjlflanflaaW.PrintLast Go.Proofs.YtoljcjlflanflaaW.PrintMore
attribute [local go_sem] max2_int min2_int max_two min_two max_three min_three max_four min_four   -- for this text's walks alone
set_option linter.unusedVariables false
set_option linter.unusedSimpArgs false

/-! ### interchangelaw15_TagsMany: function 8 -/
mutual
def interchangelaw15_TagsMany.j0 : Nat → Int → Bool → Bool → Int → Int → List (S47) → Option (Bool)
  | 0, _, _, _, _, _, _ => none
  | k + 1, x1, x5, x26, x271000, x271001, x271002 => if x26 = true then (some x5) else ((tags_Settle.f x271000 x271001 x271002 x1 true).bind fun bt273 => (if bt273.2.2.2.2 = 0 then (interchangelaw15_TagsMany.l0 k x1 x5 bt273.2.2.2.1 ([] : List Int) 0 x271000 x271001 x271002 bt273.1 bt273.2.1 bt273.2.2.1 x271000 x271001 x271002) else (some x5)))
def interchangelaw15_TagsMany.l0 : Nat → Int → Bool → List Int → List Int → Int → Int → Int → List (S47) → Int → Int → List (S47) → Int → Int → List (S47) → Option (Bool)
  | 0, _, _, _, _, _, _, _, _, _, _, _, _, _, _ => none
  | k + 1, x1, x5, x8, x11, x12, x271000, x271001, x271002, x283000, x283001, x283002, x284000, x284001, x284002 => if x12 < (x271002.length : Int) then (if x1 = 0 then (interchangelaw15_TagsMany.j2 k x1 x5 x8 x11 x12 false x271000 x271001 x271002 x283000 x283001 x283002 x284000 x284001 x284002) else (if 0 ≤ x12 then (interchangelaw15_TagsMany.j2 k x1 x5 x8 x11 x12 (decide (((rd_T47 x271002 x12).f0) > x1)) x271000 x271001 x271002 x283000 x283001 x283002 x284000 x284001 x284002) else (none))) else (if x5 = true then ((interchangeref15_Nums.f k x11 x8).bind fun t284 => (if t284 = true then ((tags_Same.f k x284000 x284001 x284002 x283000 x283001 x283002).bind fun t285 => (some t285)) else (some false))) else (some false))
def interchangelaw15_TagsMany.j2 : Nat → Int → Bool → List Int → List Int → Int → Bool → Int → Int → List (S47) → Int → Int → List (S47) → Int → Int → List (S47) → Option (Bool)
  | 0, _, _, _, _, _, _, _, _, _, _, _, _, _, _, _ => none
  | k + 1, x1, x5, x8, x11, x12, x57, x271000, x271001, x271002, x283000, x283001, x283002, x284000, x284001, x284002 => if x57 = true then (interchangelaw15_TagsMany.l0 k x1 x5 x8 x11 (wrap64 (x12 + 1)) x271000 x271001 x271002 x283000 x283001 x283002 x284000 x284001 x284002) else (if 0 ≤ x12 then (if x12 < (x271002.length : Int) then ((tags_Settle.f x284000 x284001 x284002 ((rd_T47 x271002 x12).f0) false).bind fun bt288 => (if bt288.2.2.2.2 = 0 then (if x11.length + bt288.2.2.2.1.length < 17592186044416 then (interchangelaw15_TagsMany.l0 k x1 x5 x8 (x11 ++ bt288.2.2.2.1) (wrap64 (x12 + 1)) x271000 x271001 x271002 x283000 x283001 x283002 bt288.1 bt288.2.1 bt288.2.2.1) else (none)) else (some false))) else (none)) else (none))
end
def interchangelaw15_TagsMany.f (k : Nat) (a0_0 : Int) (a0_1 : Int) (l0_2 : List (S47)) (a1 : Int) : Option (Bool) := (interchangelaw15_shown.f).bind fun t271 => ((interchangeref15_Right.f k a0_0 a0_1 l0_2).bind fun t272 => (if t272 = true then (interchangelaw15_TagsMany.j0 k a1 true (decide ((l0_2.length : Int) > 100)) a0_0 a0_1 l0_2) else (interchangelaw15_TagsMany.j0 k a1 true true a0_0 a0_1 l0_2)))
theorem interchangelaw15_TagsMany.mono_l : ∀ k, (∀ y0 y1 y2 y3 y4 y5, LeO (interchangelaw15_TagsMany.j0 k y0 y1 y2 y3 y4 y5) (interchangelaw15_TagsMany.j0 (k + 1) y0 y1 y2 y3 y4 y5)) ∧ (∀ y0 y1 y2 y3 y4 y5 y6 y7 y8 y9 y10 y11 y12 y13, LeO (interchangelaw15_TagsMany.l0 k y0 y1 y2 y3 y4 y5 y6 y7 y8 y9 y10 y11 y12 y13) (interchangelaw15_TagsMany.l0 (k + 1) y0 y1 y2 y3 y4 y5 y6 y7 y8 y9 y10 y11 y12 y13)) ∧ (∀ y0 y1 y2 y3 y4 y5 y6 y7 y8 y9 y10 y11 y12 y13 y14, LeO (interchangelaw15_TagsMany.j2 k y0 y1 y2 y3 y4 y5 y6 y7 y8 y9 y10 y11 y12 y13 y14) (interchangelaw15_TagsMany.j2 (k + 1) y0 y1 y2 y3 y4 y5 y6 y7 y8 y9 y10 y11 y12 y13 y14))
  | 0 => ⟨fun _ _ _ _ _ _ r h => by simp [interchangelaw15_TagsMany.j0] at h, fun _ _ _ _ _ _ _ _ _ _ _ _ _ _ r h => by simp [interchangelaw15_TagsMany.l0] at h, fun _ _ _ _ _ _ _ _ _ _ _ _ _ _ _ r h => by simp [interchangelaw15_TagsMany.j2] at h⟩
  | k + 1 => by
    obtain ⟨ih0, ih1, ih2⟩ := interchangelaw15_TagsMany.mono_l k
    refine ⟨?_, ?_, ?_⟩
    · intro y0 y1 y2 y3 y4 y5
      unfold interchangelaw15_TagsMany.j0
      repeat' first
      | (with_reducible exact ih0 _ _ _ _ _ _)
      | (with_reducible exact ih1 _ _ _ _ _ _ _ _ _ _ _ _ _ _)
      | (with_reducible exact ih2 _ _ _ _ _ _ _ _ _ _ _ _ _ _ _)
      | (with_reducible exact interchangeref15_Nums.mono _ _ _)
      | (with_reducible exact interchangeref15_Right.mono _ _ _ _)
      | (with_reducible exact tags_Same.mono _ _ _ _ _ _ _)
      | (with_reducible exact LeO.refl _)
      | (with_reducible exact LeO.none _)
      | (with_reducible refine LeO.ite ?_ ?_)
      | (with_reducible refine LeO.bind ?_ (fun _ => ?_))
      | exact ih0 _ _ _ _ _ _
      | exact ih1 _ _ _ _ _ _ _ _ _ _ _ _ _ _
      | exact ih2 _ _ _ _ _ _ _ _ _ _ _ _ _ _ _
      | exact interchangeref15_Nums.mono _ _ _
      | exact interchangeref15_Right.mono _ _ _ _
      | exact tags_Same.mono _ _ _ _ _ _ _
      | exact LeO.none _
      | refine LeO.ite ?_ ?_
      | refine LeO.bind ?_ (fun _ => ?_)
    · intro y0 y1 y2 y3 y4 y5 y6 y7 y8 y9 y10 y11 y12 y13
      unfold interchangelaw15_TagsMany.l0
      repeat' first
      | (with_reducible exact ih0 _ _ _ _ _ _)
      | (with_reducible exact ih1 _ _ _ _ _ _ _ _ _ _ _ _ _ _)
      | (with_reducible exact ih2 _ _ _ _ _ _ _ _ _ _ _ _ _ _ _)
      | (with_reducible exact interchangeref15_Nums.mono _ _ _)
      | (with_reducible exact interchangeref15_Right.mono _ _ _ _)
      | (with_reducible exact tags_Same.mono _ _ _ _ _ _ _)
      | (with_reducible exact LeO.refl _)
      | (with_reducible exact LeO.none _)
      | (with_reducible refine LeO.ite ?_ ?_)
      | (with_reducible refine LeO.bind ?_ (fun _ => ?_))
      | exact ih0 _ _ _ _ _ _
      | exact ih1 _ _ _ _ _ _ _ _ _ _ _ _ _ _
      | exact ih2 _ _ _ _ _ _ _ _ _ _ _ _ _ _ _
      | exact interchangeref15_Nums.mono _ _ _
      | exact interchangeref15_Right.mono _ _ _ _
      | exact tags_Same.mono _ _ _ _ _ _ _
      | exact LeO.none _
      | refine LeO.ite ?_ ?_
      | refine LeO.bind ?_ (fun _ => ?_)
    · intro y0 y1 y2 y3 y4 y5 y6 y7 y8 y9 y10 y11 y12 y13 y14
      unfold interchangelaw15_TagsMany.j2
      repeat' first
      | (with_reducible exact ih0 _ _ _ _ _ _)
      | (with_reducible exact ih1 _ _ _ _ _ _ _ _ _ _ _ _ _ _)
      | (with_reducible exact ih2 _ _ _ _ _ _ _ _ _ _ _ _ _ _ _)
      | (with_reducible exact interchangeref15_Nums.mono _ _ _)
      | (with_reducible exact interchangeref15_Right.mono _ _ _ _)
      | (with_reducible exact tags_Same.mono _ _ _ _ _ _ _)
      | (with_reducible exact LeO.refl _)
      | (with_reducible exact LeO.none _)
      | (with_reducible refine LeO.ite ?_ ?_)
      | (with_reducible refine LeO.bind ?_ (fun _ => ?_))
      | exact ih0 _ _ _ _ _ _
      | exact ih1 _ _ _ _ _ _ _ _ _ _ _ _ _ _
      | exact ih2 _ _ _ _ _ _ _ _ _ _ _ _ _ _ _
      | exact interchangeref15_Nums.mono _ _ _
      | exact interchangeref15_Right.mono _ _ _ _
      | exact tags_Same.mono _ _ _ _ _ _ _
      | exact LeO.none _
      | refine LeO.ite ?_ ?_
      | refine LeO.bind ?_ (fun _ => ?_)
theorem interchangelaw15_TagsMany.mono : ∀ a0 a1 a2 a3 k, LeO (interchangelaw15_TagsMany.f k a0 a1 a2 a3) (interchangelaw15_TagsMany.f (k + 1) a0 a1 a2 a3) := by
  intro a0 a1 a2 a3 k
  obtain ⟨ih0, ih1, ih2⟩ := interchangelaw15_TagsMany.mono_l k
  unfold interchangelaw15_TagsMany.f
  repeat' first
      | (with_reducible exact ih0 _ _ _ _ _ _)
      | (with_reducible exact ih1 _ _ _ _ _ _ _ _ _ _ _ _ _ _)
      | (with_reducible exact ih2 _ _ _ _ _ _ _ _ _ _ _ _ _ _ _)
      | (with_reducible exact interchangeref15_Nums.mono _ _ _)
      | (with_reducible exact interchangeref15_Right.mono _ _ _ _)
      | (with_reducible exact tags_Same.mono _ _ _ _ _ _ _)
      | (with_reducible exact LeO.refl _)
      | (with_reducible exact LeO.none _)
      | (with_reducible refine LeO.ite ?_ ?_)
      | (with_reducible refine LeO.bind ?_ (fun _ => ?_))
      | exact ih0 _ _ _ _ _ _
      | exact ih1 _ _ _ _ _ _ _ _ _ _ _ _ _ _
      | exact ih2 _ _ _ _ _ _ _ _ _ _ _ _ _ _ _
      | exact interchangeref15_Nums.mono _ _ _
      | exact interchangeref15_Right.mono _ _ _ _
      | exact tags_Same.mono _ _ _ _ _ _ _
      | exact LeO.none _
      | refine LeO.ite ?_ ?_
      | refine LeO.bind ?_ (fun _ => ?_)
def interchangelaw15_TagsMany.T14 : Bool × List (List Nat × List Nat) := (true, [([], []), ([], []), ([1], [1]), ([], []), ([2, 3], [2, 3]), ([4], [4]), ([5], [5]), ([0, 6], [0, 6]), ([7], [7]), ([8], [8]), ([8], [8]), ([8], [8]), ([], []), ([12, 9, 7, 0, 1, 2, 3, 4, 5, 6, 7, 8, 9, 12], [9, 12]), ([10, 13, 0, 1, 2, 3, 4, 5, 6, 7, 8, 9, 10, 12, 13], [10]), ([11, 14, 0, 1, 2, 3, 4, 5, 6, 7, 8, 9, 10, 11, 12, 13, 14], [11])])
def interchangelaw15_TagsMany.B14 : List Nat := [0, 0, 2, 0, 14, 30, 62, 127, 255, 511, 511, 511, 0, 5119, 14335, 32767]
theorem interchangelaw15_TagsMany.tab14 : rtab .any (opsOf Try.f8 14) = interchangelaw15_TagsMany.T14 := by kernel_rfl
theorem interchangelaw15_TagsMany.bits14 : waitsOk interchangelaw15_TagsMany.T14.2 interchangelaw15_TagsMany.B14 = true := by kernel_rfl
set_option maxHeartbeats 8000000 in
set_option maxRecDepth 100000 in
theorem interchangelaw15_TagsMany.calls (k : Nat) (a0_0 : Int) (a0_1 : Int) (P0_2_ : Nat → Prop) (A0_2 : Option Addr) (c0_2 : Nat) (l0_2 : List (S47)) (a1 : Int) (r : Bool) (w : World) (hs0_2 : Kd.V k47 47 w w.heap.size (fun k_ => P0_2_ k_) (.slice A0_2 l0_2.length c0_2) l0_2) (hT_ : Aside0 (r = true)) (h : interchangelaw15_TagsMany.f k a0_0 a0_1 l0_2 a1 = some r) :
    Calls Try.prog 8 #[.agg #[.int .u64 a0_0, .int .u64 a0_1, .slice A0_2 l0_2.length c0_2], .int .u64 a1] w fun e w' => e = .returned (.bool r) ∧ Below w.heap.size w w' := by
  have hu25 := Try.underlying25
  have HO0_2 := Aside0.mk (show Kd.V k47 47 w w.heap.size (fun k_ => (P0_2_ k_ ∨ w.heap.size ≤ k_)) (.slice A0_2 l0_2.length c0_2) l0_2 from Kd.V_mono hs0_2 (fun k_ hk => .inl hk))
  have HB := Aside0.mk (Below.refl w.heap.size w)
  have H : ((interchangelaw15_shown.f).bind fun t271 => ((interchangeref15_Right.f k a0_0 a0_1 l0_2).bind fun t272 => (if t272 = true then (interchangelaw15_TagsMany.j0 k a1 true (decide ((l0_2.length : Int) > 100)) a0_0 a0_1 l0_2) else (interchangelaw15_TagsMany.j0 k a1 true true a0_0 a0_1 l0_2)))) = some r := h
  clear h
  replace H := Option.bind_eq_some_iff.mp H
  obtain ⟨t271, A30, H⟩ := H
  replace H : ((interchangeref15_Right.f k a0_0 a0_1 l0_2).bind fun t272 => (if t272 = true then (interchangelaw15_TagsMany.j0 k a1 true (decide ((l0_2.length : Int) > 100)) a0_0 a0_1 l0_2) else (interchangelaw15_TagsMany.j0 k a1 true true a0_0 a0_1 l0_2))) = some r := H
  obtain rfl : true = t271 := Option.some.inj (interchangelaw15_shown_true.symm.trans A30)
  have A3 := Aside0.mk A30
  clear A30
  replace H := Option.bind_eq_some_iff.mp H
  obtain ⟨t272, A40, H⟩ := H
  replace H : (if t272 = true then (interchangelaw15_TagsMany.j0 k a1 true (decide ((l0_2.length : Int) > 100)) a0_0 a0_1 l0_2) else (interchangelaw15_TagsMany.j0 k a1 true true a0_0 a0_1 l0_2)) = some r := H
  have A4 := Aside0.mk A40
  clear A40
  have HC5 := Aside0.mk H
  clear H
  go_enter Try.func8, Try.ntmps8
  go_upto_region 3 with (first | ((with_reducible refine gate_dst (N := 2) rfl ?_); (try (refine gate_guard (by rfl) ?_; dsimp only)); refine box_event ?hg (N := 2) ?hd (cs := #[.int .u64 a0_0, .int .u64 a0_1, .slice A0_2 l0_2.length c0_2]) (t := 25) ?hr ?_; (case hd => rfl); (case hg => rfl); (case hr => first | (go_simp; done) | (go_simp; rfl)); intro gb270 hg w6 hbox hb; have n0_ := Aside0.mk (Kd.V_below (Kd.V_elderB (by (with_reducible repeat (first | apply Kd.V_alloc | apply Kd.V_drewN | apply Kd.V_drew)); exact HO0_2.out) gb270 (Nat.le_of_eq hg.symm)) hb); have n1_ := Aside0.mk (below_step (by repeat (first | (with_reducible first | exact HB.out | apply below_alloc | apply pw_below_drewN | apply below_drew1) | exact HB.out)) hb); have n2_ := Aside0.mk (hbox); have n3_ := Aside0.mk ((by rw [hg]; exact (below_size (by repeat (first | (with_reducible first | exact HB.out | apply below_alloc | apply pw_below_drewN | apply below_drew1) | exact HB.out))) : w.heap.size ≤ gb270)); have n4_ := Aside0.mk ((by rw [hg]; exact (below_size (by repeat (first | (with_reducible first | exact HB.out | apply below_alloc | apply pw_below_drewN | apply below_drew1) | exact HB.out))) : w.heap.size ≤ gb270)); clear HO0_2; clear HB; have HO0_2 := n0_; have HB := n1_; have BK270 := n2_; have GW270 := n3_; have GE270 := n4_; clear n0_ n1_ n2_ n3_ n4_; clear hb hbox hg) | ((with_reducible refine gate_callee (f := 9) rfl ?_); refine goesL_ (some 16) rfl rfl Try.func9 (by kernel_rfl) rfl #[] rfl (by (try simp only [List.map_toArray, List.map_cons, List.map_nil]); first | done | rfl | (simp only [List.length_drop, List.length_take]; rfl)) ?_; (with_reducible refine (interchangelaw15_shown.calls true _ ⟨rfl⟩ A3.out).mono ?_); rintro e w7 ⟨rfl, hb⟩; refine ⟨_, rfl, ?_⟩; have n0_ := Aside0.mk (Kd.V_below (by (with_reducible repeat (first | apply Kd.V_alloc | apply Kd.V_drewN | apply Kd.V_drew)); exact HO0_2.out) hb); have n1_ := Aside0.mk (blk_below (g := gb270) (o := .cells #[.int .u64 a0_0, .int .u64 a0_1, .slice A0_2 l0_2.length c0_2] 25 (0, 0)) (by (with_reducible repeat (first | refine blk_drewN ?_ _ | refine blk_drew ?_ | refine blk_alloc ?_ _)); exact BK270.out) hb); have n2_ := Aside0.mk (below_step (by repeat (first | (with_reducible first | exact HB.out | apply below_alloc | apply pw_below_drewN | apply below_drew1 | refine below_set ?_ GE270.out) | exact HB.out)) hb); clear HO0_2; clear BK270; clear HB; have HO0_2 := n0_; have BK270 := n1_; have HB := n2_; clear n0_ n1_ n2_; (try clear hb); (try clear hb2); (try clear hk); (try clear hi); have hcz8_0 : w7.cell? ⟨gb270, 0, none⟩ = some (.int .u64 a0_0) := (blk_cell BK270.out 0).trans rfl; have hcz8_1 : w7.cell? ⟨gb270, 1, none⟩ = some (.int .u64 a0_1) := (blk_cell BK270.out 1).trans rfl; have hcz8_2 : w7.cell? ⟨gb270, 2, none⟩ = some (.slice A0_2 l0_2.length c0_2) := (blk_cell BK270.out 2).trans rfl; have hfz8_0 := blk_frozen BK270.out 0; have hfz8_1 := blk_frozen BK270.out 1; have hfz8_2 := blk_frozen BK270.out 2) | ((with_reducible refine gate_callee (f := 10) rfl ?_); refine goesL_ (some 18) rfl rfl Try.func10 (by kernel_rfl) rfl #[.agg #[.int .u64 a0_0, .int .u64 a0_1, .slice A0_2 l0_2.length c0_2]] rfl (by (try simp only [List.map_toArray, List.map_cons, List.map_nil]); first | done | rfl | (simp only [List.length_drop, List.length_take]; rfl)) ?_; (with_reducible refine (interchangeref15_Right.calls k a0_0 a0_1 _ _ l0_2 t272 _ ?side1 ?side2 A4.out).mono ?_); (case side1 => repeat (first | exact (Kd.V_reads' HO0_2.out).2.2 | (with_reducible refine Kd.C_alloc ?_ _) | (with_reducible refine Kd.C_drewN ?_ _) | (with_reducible refine Kd.C_drew ?_))); (case side2 => exact (Kd.V_reads' HO0_2.out).2.1); rintro e w9 ⟨rfl, hb⟩; refine ⟨_, rfl, ?_⟩; have n0_ := Aside0.mk (Kd.V_below (by (with_reducible repeat (first | apply Kd.V_alloc | apply Kd.V_drewN | apply Kd.V_drew)); exact HO0_2.out) hb); have n1_ := Aside0.mk (blk_below (g := gb270) (o := .cells #[.int .u64 a0_0, .int .u64 a0_1, .slice A0_2 l0_2.length c0_2] 25 (0, 0)) (by (with_reducible repeat (first | refine blk_drewN ?_ _ | refine blk_drew ?_ | refine blk_alloc ?_ _)); exact BK270.out) hb); have n2_ := Aside0.mk (below_step (by repeat (first | (with_reducible first | exact HB.out | apply below_alloc | apply pw_below_drewN | apply below_drew1 | refine below_set ?_ GE270.out) | exact HB.out)) hb); clear HO0_2; clear BK270; clear HB; have HO0_2 := n0_; have BK270 := n1_; have HB := n2_; clear n0_ n1_ n2_; (try clear hb); (try clear hb2); (try clear hk); (try clear hi)))
  (try simp only [Act.put, List.setIfInBounds_toArray, List.set_cons_zero, List.set_cons_succ])
  go_cut [26] (fun v26 wc => ∃ (kq : Nat) (x26_4 : Bool), v26 = .bool x26_4 ∧ Aside0 (interchangelaw15_TagsMany.j0 kq a1 true x26_4 a0_0 a0_1 l0_2 = some r) ∧ Aside0 (kq ≤ k) ∧ Aside0 (Kd.V k47 47 wc w.heap.size (fun k_ => (P0_2_ k_ ∨ w.heap.size ≤ k_) ∧ k_ ≠ gb270) (.slice A0_2 l0_2.length c0_2) l0_2) ∧ Aside0 (wc.heap[gb270]? = some (.cells #[.int .u64 a0_0, .int .u64 a0_1, (.slice A0_2 l0_2.length c0_2)] 25 (0, 0))) ∧ Aside0 (Below w.heap.size w wc))
  case first =>
    have H := HC5.out
    clear HC5
    by_cases c10 : t272 = true
    · subst c10
      have H1 : (interchangelaw15_TagsMany.j0 k a1 true (decide ((l0_2.length : Int) > 100)) a0_0 a0_1 l0_2) = some r := by rw [if_pos rfl] at H; exact H
      clear H
      have H := H1
      clear H1
      have H' := Aside0.mk H
      clear H
      have hcz11_0 : w9.cell? ⟨gb270, 0, none⟩ = some (.int .u64 a0_0) := (blk_cell BK270.out 0).trans rfl
      have hcz11_1 : w9.cell? ⟨gb270, 1, none⟩ = some (.int .u64 a0_1) := (blk_cell BK270.out 1).trans rfl
      have hcz11_2 : w9.cell? ⟨gb270, 2, none⟩ = some (.slice A0_2 l0_2.length c0_2) := (blk_cell BK270.out 2).trans rfl
      have hfz11_0 := blk_frozen BK270.out 0
      have hfz11_1 := blk_frozen BK270.out 1
      have hfz11_2 := blk_frozen BK270.out 2
      go_wp2
      go_meet
      case rel => exact ⟨_, (decide ((l0_2.length : Int) > 100)), (by first | rfl | (simp; done) | (simp [*]; done)), H', ⟨by first | omega | exact Nat.le_refl _⟩, ⟨by (with_reducible repeat (first | apply Kd.V_alloc | apply Kd.V_drewN | apply Kd.V_drew)); exact HO0_2.out⟩, ⟨by (with_reducible repeat (first | refine blk_drewN ?_ _ | refine blk_drew ?_ | refine blk_alloc ?_ _)); exact BK270.out⟩, ⟨by repeat (first | (with_reducible first | exact HB.out | apply below_alloc | apply pw_below_drewN | apply below_drew1 | refine below_set ?_ GE270.out) | exact HB.out)⟩⟩
    · replace c10 := Bool.eq_false_iff.mpr c10
      subst c10
      have H1 : (interchangelaw15_TagsMany.j0 k a1 true true a0_0 a0_1 l0_2) = some r := by rw [if_neg (show ¬ (false = true) by decide)] at H; exact H
      clear H
      have H := H1
      clear H1
      have H' := Aside0.mk H
      clear H
      go_wp2
      go_meet
      case rel => exact ⟨_, (true), (by first | rfl | (simp; done) | (simp [*]; done)), H', ⟨by first | omega | exact Nat.le_refl _⟩, ⟨by (with_reducible repeat (first | apply Kd.V_alloc | apply Kd.V_drewN | apply Kd.V_drew)); exact HO0_2.out⟩, ⟨by (with_reducible repeat (first | refine blk_drewN ?_ _ | refine blk_drew ?_ | refine blk_alloc ?_ _)); exact BK270.out⟩, ⟨by repeat (first | (with_reducible first | exact HB.out | apply below_alloc | apply pw_below_drewN | apply below_drew1 | refine below_set ?_ GE270.out) | exact HB.out)⟩⟩
  case rest =>
    clear HC5
    try clear c1
    try clear p2
    try clear c8
    try clear c9
    try clear c10
    try clear hcz11_0
    try clear hcz11_1
    try clear hcz11_2
    try clear hcz8_0
    try clear hcz8_1
    try clear hcz8_2
    try clear hfz11_0
    try clear hfz11_1
    try clear hfz11_2
    try clear hfz8_0
    try clear hfz8_1
    try clear hfz8_2
    obtain ⟨kq, x26_4, rfl, HA, HJ4, HO_271002, BK270, HB⟩ := hcut
    cases kq with
    | zero => exact absurd HA.out (by simp [interchangelaw15_TagsMany.j0])
    | succ kj4 =>
      have H := HA.out
      clear HA
      simp only [interchangelaw15_TagsMany.j0] at H
      by_cases c12 : x26_4 = true
      · subst c12
        have H1 : (some true) = some r := by rw [if_pos rfl] at H; exact H
        clear H
        have H := H1
        clear H1
        obtain rfl := Option.some.inj H
        go_wp2
        go_ret
        exact ⟨by first | rfl | (simp [errW_none, errW_some] <;> rfl) | (simp [*, errW_none, errW_some] <;> rfl) | (exfalso; simp only [decide_eq_true_eq, decide_eq_false_iff_not, beq_iff_eq, bne_iff_ne, ne_eq, beq_eq_false_iff_ne, bne_eq_false_iff_eq] at *; omega), by repeat (first | (with_reducible first | exact HB.out | apply below_alloc | apply pw_below_drewN | apply below_drew1 | refine below_set ?_ GE270.out) | exact HB.out)⟩
      · replace c12 := Bool.eq_false_iff.mpr c12
        subst c12
        have H1 : ((tags_Settle.f a0_0 a0_1 l0_2 a1 true).bind fun bt273 => (if bt273.2.2.2.2 = 0 then (interchangelaw15_TagsMany.l0 kj4 a1 true bt273.2.2.2.1 ([] : List Int) 0 a0_0 a0_1 l0_2 bt273.1 bt273.2.1 bt273.2.2.1 a0_0 a0_1 l0_2) else (some true))) = some r := by rw [if_neg (show ¬ (false = true) by decide)] at H; exact H
        clear H
        have H := H1
        clear H1
        replace H := Option.bind_eq_some_iff.mp H
        obtain ⟨⟨t273, t274, t275, t278, t281⟩, A130, H⟩ := H
        replace H : (if t281 = 0 then (interchangelaw15_TagsMany.l0 kj4 a1 true t278 ([] : List Int) 0 a0_0 a0_1 l0_2 t273 t274 t275 a0_0 a0_1 l0_2) else (some true)) = some r := H
        have A13 := Aside0.mk A130
        clear A130
        by_cases c14 : t281 = 0
        · rw [if_pos c14] at H
          have c14b0 : (t281 == 0) = true := beq_iff_eq.mpr c14
          have c14b1 : (t281 != 0) = false := bne_eq_false_iff_eq.mpr c14
          clear c14
          have H' := Aside0.mk H
          clear H
          have hcz15_0 : wc.cell? ⟨gb270, 0, none⟩ = some (.int .u64 a0_0) := (blk_cell BK270.out 0).trans rfl
          have hcz15_1 : wc.cell? ⟨gb270, 1, none⟩ = some (.int .u64 a0_1) := (blk_cell BK270.out 1).trans rfl
          have hcz15_2 : wc.cell? ⟨gb270, 2, none⟩ = some (.slice A0_2 l0_2.length c0_2) := (blk_cell BK270.out 2).trans rfl
          have hfz15_0 := blk_frozen BK270.out 0
          have hfz15_1 := blk_frozen BK270.out 1
          have hfz15_2 := blk_frozen BK270.out 2
          go_wp2_with (first | ((with_reducible refine gate_callee (f := 12) rfl ?_); refine goesL_ (some 31) rfl rfl Try.func12 (by kernel_rfl) rfl #[.agg #[.int .u64 a0_0, .int .u64 a0_1, .slice A0_2 l0_2.length c0_2], .int .u64 a1, .bool true] rfl (by (try simp only [List.map_toArray, List.map_cons, List.map_nil]); first | done | rfl | (simp only [List.length_drop, List.length_take]; rfl)) ?_; (with_reducible refine (tags_Settle.calls a0_0 a0_1 (fun k_ => ((P0_2_ k_ ∨ w.heap.size ≤ k_) ∧ k_ ≠ gb270)) _ _ l0_2 a1 true t273 t274 t275 t278 t281 _ ?side1 A13.out).mono ?_); (case side1 => exact HO_271002.out); rintro e w16 ⟨v276, v279, rfl, ho0, ho1, hb⟩; refine ⟨_, rfl, ?_⟩; have n0_ := Aside0.mk (Kd.V_elder' (by (with_reducible repeat (first | apply Kd.V_alloc | apply Kd.V_drewN | apply Kd.V_drew)); exact HO_271002.out) (Kd.R_base ho1) hb); have n1_ := Aside0.mk (Kd.V_lower (Kd.V_mono (ok' := fun k_ => (P0_2_ k_ ∨ w.heap.size ≤ k_) ∧ some k_ ≠ (v279 : Value).ownBlock ∧ k_ ≠ gb270) ho0 (fun k_ hk_ => ⟨Or.elim hk_.1 (fun hs_ => hs_.1) (fun hn_ => (.inr (Nat.le_trans (below_size (by repeat (first | (with_reducible first | exact HB.out | apply below_alloc | apply pw_below_drewN | apply below_drew1 | refine below_set ?_ GE270.out) | exact HB.out))) hn_))), hk_.2, Or.elim hk_.1 (fun hs_ => hs_.2) (fun hn_ => (Kd.freshB (g := gb270) (o := .cells #[.int .u64 a0_0, .int .u64 a0_1, .slice A0_2 l0_2.length c0_2] 25 (0, 0)) (by (with_reducible repeat (first | refine blk_drewN ?_ _ | refine blk_drew ?_ | refine blk_alloc ?_ _)); exact BK270.out) k_ hn_))⟩)) (below_size (by repeat (first | (with_reducible first | exact HB.out | apply below_alloc | apply pw_below_drewN | apply below_drew1 | refine below_set ?_ GE270.out) | exact HB.out)))); have n2_ := Aside0.mk (Kd.R_lower (Kd.R_newM (M := fun k_ => (w.heap.size ≤ k_)) (Kd.R_mono (ok' := fun k_ => True) ho1 (fun _ hk_ => trivial)) (below_size (by repeat (first | (with_reducible first | exact HB.out | apply below_alloc | apply pw_below_drewN | apply below_drew1 | refine below_set ?_ GE270.out) | exact HB.out))) (fun k_ h_ => h_)) (below_size (by repeat (first | (with_reducible first | exact HB.out | apply below_alloc | apply pw_below_drewN | apply below_drew1 | refine below_set ?_ GE270.out) | exact HB.out)))); have n3_ := Aside0.mk (blk_below (g := gb270) (o := .cells #[.int .u64 a0_0, .int .u64 a0_1, .slice A0_2 l0_2.length c0_2] 25 (0, 0)) (by (with_reducible repeat (first | refine blk_drewN ?_ _ | refine blk_drew ?_ | refine blk_alloc ?_ _)); exact BK270.out) hb); have n4_ := Aside0.mk (below_step (by repeat (first | (with_reducible first | exact HB.out | apply below_alloc | apply pw_below_drewN | apply below_drew1 | refine below_set ?_ GE270.out) | exact HB.out)) hb); clear HO_271002; clear BK270; clear HB; have HO_271002 := n0_; have HO277 := n1_; have HO280 := n2_; have BK270 := n3_; have HB := n4_; clear n0_ n1_ n2_ n3_ n4_; (try clear hb); (try clear hb2); (try clear hk); (try clear hi); (try clear ho0); (try clear ho1)) | ((with_reducible refine gate_dst (N := 7) rfl ?_); (try (refine gate_guard (by rfl) ?_; dsimp only)); refine box_event ?hg (N := 7) ?hd (cs := #[.int .u64 0, .int .u64 0, .slice none 0 0]) (t := 25) ?hr ?_; (case hd => rfl); (case hg => rfl); (case hr => first | (go_simp; done) | (go_simp; rfl)); intro gb282 hg w17 hbox hb; have n0_ := Aside0.mk (Kd.V_below (Kd.V_elderB (by (with_reducible repeat (first | apply Kd.V_alloc | apply Kd.V_drewN | apply Kd.V_drew)); exact HO_271002.out) gb282 (Nat.le_of_eq hg.symm)) hb); have n1_ := Aside0.mk (Kd.V_below (Kd.V_elderB (by (with_reducible repeat (first | apply Kd.V_alloc | apply Kd.V_drewN | apply Kd.V_drew)); exact HO277.out) gb282 (Nat.le_of_eq hg.symm)) hb); have n2_ := Aside0.mk (Kd.R_below (by (with_reducible repeat (first | apply Kd.R_alloc | apply Kd.R_drewN | apply Kd.R_drew)); exact HO280.out) hb); have n3_ := Aside0.mk (blk_below (g := gb270) (o := .cells #[.int .u64 a0_0, .int .u64 a0_1, .slice A0_2 l0_2.length c0_2] 25 (0, 0)) (by (with_reducible repeat (first | refine blk_drewN ?_ _ | refine blk_drew ?_ | refine blk_alloc ?_ _)); exact BK270.out) hb); have n4_ := Aside0.mk (below_step (by repeat (first | (with_reducible first | exact HB.out | apply below_alloc | apply pw_below_drewN | apply below_drew1 | refine below_set ?_ GE270.out) | exact HB.out)) hb); have n5_ := Aside0.mk (hbox); have n6_ := Aside0.mk ((by rw [hg]; exact (below_size (by repeat (first | (with_reducible first | exact HB.out | apply below_alloc | apply pw_below_drewN | apply below_drew1 | refine below_set ?_ GE270.out) | exact HB.out))) : w.heap.size ≤ gb282)); have n7_ := Aside0.mk ((by rw [hg]; exact (below_size (by repeat (first | (with_reducible first | exact HB.out | apply below_alloc | apply pw_below_drewN | apply below_drew1 | refine below_set ?_ GE270.out) | exact HB.out))) : w.heap.size ≤ gb282)); have n8_ := Aside0.mk ((by rw [hg]; exact Nat.ne_of_lt (blk_lt (g := gb270) (o := .cells #[.int .u64 a0_0, .int .u64 a0_1, .slice A0_2 l0_2.length c0_2] 25 (0, 0)) (by (with_reducible repeat (first | refine blk_drewN ?_ _ | refine blk_drew ?_ | refine blk_alloc ?_ _)); exact BK270.out)) : gb270 ≠ gb282)); have n9_ := Aside0.mk ((by rw [hg]; exact Nat.ne_of_gt (blk_lt (g := gb270) (o := .cells #[.int .u64 a0_0, .int .u64 a0_1, .slice A0_2 l0_2.length c0_2] 25 (0, 0)) (by (with_reducible repeat (first | refine blk_drewN ?_ _ | refine blk_drew ?_ | refine blk_alloc ?_ _)); exact BK270.out)) : gb282 ≠ gb270)); clear HO_271002; clear HO277; clear HO280; clear BK270; clear HB; have HO_271002 := n0_; have HO277 := n1_; have HO280 := n2_; have BK270 := n3_; have HB := n4_; have BK282 := n5_; have GW282 := n6_; have GE282 := n7_; have NB270_282 := n8_; have NB282_270 := n9_; clear n0_ n1_ n2_ n3_ n4_ n5_ n6_ n7_ n8_ n9_; clear hb hbox hg; have hnb18 := NB282_270.out; have hnc18 := NB270_282.out; have hcz19_0 : w17.cell? ⟨gb282, 0, none⟩ = some (.int .u64 0) := (blk_cell BK282.out 0).trans rfl; have hcz19_1 : w17.cell? ⟨gb282, 1, none⟩ = some (.int .u64 0) := (blk_cell BK282.out 1).trans rfl; have hcz19_2 : w17.cell? ⟨gb282, 2, none⟩ = some (.slice none 0 0) := (blk_cell BK282.out 2).trans rfl; have hfz19_0 := blk_frozen BK282.out 0; have hfz19_1 := blk_frozen BK282.out 1; have hfz19_2 := blk_frozen BK282.out 2; obtain ⟨Ao20, co20, eo20⟩ := Kd.V_slice HO277.out; subst eo20; have hcz21_0 : w17.cell? ⟨gb270, 0, none⟩ = some (.int .u64 a0_0) := (blk_cell BK270.out 0).trans rfl; have hcz21_1 : w17.cell? ⟨gb270, 1, none⟩ = some (.int .u64 a0_1) := (blk_cell BK270.out 1).trans rfl; have hcz21_2 : w17.cell? ⟨gb270, 2, none⟩ = some (.slice A0_2 l0_2.length c0_2) := (blk_cell BK270.out 2).trans rfl; have hfz21_0 := blk_frozen BK270.out 0; have hfz21_1 := blk_frozen BK270.out 1; have hfz21_2 := blk_frozen BK270.out 2) | ((with_reducible refine gate_dst (N := 10) rfl ?_); (try (refine gate_guard (by rfl) ?_; dsimp only)); refine box_event ?hg (N := 10) ?hd (cs := #[.int .u64 0, .int .u64 0, .slice none 0 0]) (t := 25) ?hr ?_; (case hd => rfl); (case hg => rfl); (case hr => first | (go_simp; done) | (go_simp; rfl)); intro gb283 hg w22 hbox hb; have n0_ := Aside0.mk (Kd.V_below (Kd.V_elderB (by (with_reducible repeat (first | apply Kd.V_alloc | apply Kd.V_drewN | apply Kd.V_drew)); exact (Kd.V_mono (Kd.V_far (p := ⟨gb282, 2, none⟩) (Kd.V_far (p := ⟨gb282, 1, none⟩) (Kd.V_far (p := ⟨gb282, 0, none⟩) (Kd.V_mono HO_271002.out (fun k_ hk => (⟨hk, hk.2⟩ : _ ∧ k_ ≠ gb282))) (fun _ hk => hk.2) (.int .u64 t273)) (fun _ hk => hk.2) (.int .u64 t274)) (fun _ hk => hk.2) (.slice Ao20 t275.length co20)) (fun _ h_ => h_.1))) gb283 (Nat.le_of_eq hg.symm)) hb); have n1_ := Aside0.mk (Kd.V_below (Kd.V_elderB (by (with_reducible repeat (first | apply Kd.V_alloc | apply Kd.V_drewN | apply Kd.V_drew)); exact (Kd.V_mono (Kd.V_far (p := ⟨gb282, 2, none⟩) (Kd.V_far (p := ⟨gb282, 1, none⟩) (Kd.V_far (p := ⟨gb282, 0, none⟩) (Kd.V_mono HO277.out (fun k_ hk => (⟨hk, hk.2⟩ : _ ∧ k_ ≠ gb282))) (fun _ hk => hk.2) (.int .u64 t273)) (fun _ hk => hk.2) (.int .u64 t274)) (fun _ hk => hk.2) (.slice Ao20 t275.length co20)) (fun _ h_ => h_.1))) gb283 (Nat.le_of_eq hg.symm)) hb); have n2_ := Aside0.mk (Kd.R_below (by (with_reducible repeat (first | apply Kd.R_alloc | apply Kd.R_drewN | apply Kd.R_drew)); exact (Kd.R_mono (Kd.R_far (p := ⟨gb282, 2, none⟩) (Kd.R_far (p := ⟨gb282, 1, none⟩) (Kd.R_far (p := ⟨gb282, 0, none⟩) (Kd.R_types HO280.out BK282.out (by decide)) (fun _ hk => hk.2) (.int .u64 t273)) (fun _ hk => hk.2) (.int .u64 t274)) (fun _ hk => hk.2) (.slice Ao20 t275.length co20)) (fun _ h_ => h_.1))) hb); have n3_ := Aside0.mk (blk_below (g := gb270) (o := .cells #[.int .u64 a0_0, .int .u64 a0_1, .slice A0_2 l0_2.length c0_2] 25 (0, 0)) (by (with_reducible repeat (first | refine blk_drewN ?_ _ | refine blk_drew ?_ | refine blk_alloc ?_ _)); refine blk_far ?_ NB270_282.out _; (with_reducible repeat (first | refine blk_drewN ?_ _ | refine blk_drew ?_ | refine blk_alloc ?_ _)); refine blk_far ?_ NB270_282.out _; (with_reducible repeat (first | refine blk_drewN ?_ _ | refine blk_drew ?_ | refine blk_alloc ?_ _)); refine blk_far ?_ NB270_282.out _; (with_reducible repeat (first | refine blk_drewN ?_ _ | refine blk_drew ?_ | refine blk_alloc ?_ _)); exact BK270.out) hb); have n4_ := Aside0.mk (blk_below (g := gb282) (o := .cells #[.int .u64 t273, .int .u64 t274, .slice Ao20 t275.length co20] 25 (0, 0)) (by (with_reducible repeat (first | refine blk_drewN ?_ _ | refine blk_drew ?_ | refine blk_alloc ?_ _)); refine blk_put (cs := #[.int .u64 t273, .int .u64 t274, .slice none 0 0]) ?_ 2 _ rfl; (with_reducible repeat (first | refine blk_drewN ?_ _ | refine blk_drew ?_ | refine blk_alloc ?_ _)); refine blk_put (cs := #[.int .u64 t273, .int .u64 0, .slice none 0 0]) ?_ 1 _ rfl; (with_reducible repeat (first | refine blk_drewN ?_ _ | refine blk_drew ?_ | refine blk_alloc ?_ _)); refine blk_put (cs := #[.int .u64 0, .int .u64 0, .slice none 0 0]) ?_ 0 _ rfl; (with_reducible repeat (first | refine blk_drewN ?_ _ | refine blk_drew ?_ | refine blk_alloc ?_ _)); exact BK282.out) hb); have n5_ := Aside0.mk (below_step (by repeat (first | (with_reducible first | exact HB.out | apply below_alloc | apply pw_below_drewN | apply below_drew1 | refine below_set ?_ GE270.out | refine below_set ?_ GE282.out) | exact HB.out)) hb); have n6_ := Aside0.mk (hbox); have n7_ := Aside0.mk ((by rw [hg]; exact (below_size (by repeat (first | (with_reducible first | exact HB.out | apply below_alloc | apply pw_below_drewN | apply below_drew1 | refine below_set ?_ GE270.out | refine below_set ?_ GE282.out) | exact HB.out))) : w.heap.size ≤ gb283)); have n8_ := Aside0.mk ((by rw [hg]; exact (below_size (by repeat (first | (with_reducible first | exact HB.out | apply below_alloc | apply pw_below_drewN | apply below_drew1 | refine below_set ?_ GE270.out | refine below_set ?_ GE282.out) | exact HB.out))) : w.heap.size ≤ gb283)); have n9_ := Aside0.mk ((by rw [hg]; exact Nat.ne_of_lt (blk_lt (g := gb270) (o := .cells #[.int .u64 a0_0, .int .u64 a0_1, .slice A0_2 l0_2.length c0_2] 25 (0, 0)) (by (with_reducible repeat (first | refine blk_drewN ?_ _ | refine blk_drew ?_ | refine blk_alloc ?_ _)); refine blk_far ?_ NB270_282.out _; (with_reducible repeat (first | refine blk_drewN ?_ _ | refine blk_drew ?_ | refine blk_alloc ?_ _)); refine blk_far ?_ NB270_282.out _; (with_reducible repeat (first | refine blk_drewN ?_ _ | refine blk_drew ?_ | refine blk_alloc ?_ _)); refine blk_far ?_ NB270_282.out _; (with_reducible repeat (first | refine blk_drewN ?_ _ | refine blk_drew ?_ | refine blk_alloc ?_ _)); exact BK270.out)) : gb270 ≠ gb283)); have n10_ := Aside0.mk ((by rw [hg]; exact Nat.ne_of_gt (blk_lt (g := gb270) (o := .cells #[.int .u64 a0_0, .int .u64 a0_1, .slice A0_2 l0_2.length c0_2] 25 (0, 0)) (by (with_reducible repeat (first | refine blk_drewN ?_ _ | refine blk_drew ?_ | refine blk_alloc ?_ _)); refine blk_far ?_ NB270_282.out _; (with_reducible repeat (first | refine blk_drewN ?_ _ | refine blk_drew ?_ | refine blk_alloc ?_ _)); refine blk_far ?_ NB270_282.out _; (with_reducible repeat (first | refine blk_drewN ?_ _ | refine blk_drew ?_ | refine blk_alloc ?_ _)); refine blk_far ?_ NB270_282.out _; (with_reducible repeat (first | refine blk_drewN ?_ _ | refine blk_drew ?_ | refine blk_alloc ?_ _)); exact BK270.out)) : gb283 ≠ gb270)); have n11_ := Aside0.mk ((by rw [hg]; exact Nat.ne_of_lt (blk_lt (g := gb282) (o := .cells #[.int .u64 t273, .int .u64 t274, .slice Ao20 t275.length co20] 25 (0, 0)) (by (with_reducible repeat (first | refine blk_drewN ?_ _ | refine blk_drew ?_ | refine blk_alloc ?_ _)); refine blk_put (cs := #[.int .u64 t273, .int .u64 t274, .slice none 0 0]) ?_ 2 _ rfl; (with_reducible repeat (first | refine blk_drewN ?_ _ | refine blk_drew ?_ | refine blk_alloc ?_ _)); refine blk_put (cs := #[.int .u64 t273, .int .u64 0, .slice none 0 0]) ?_ 1 _ rfl; (with_reducible repeat (first | refine blk_drewN ?_ _ | refine blk_drew ?_ | refine blk_alloc ?_ _)); refine blk_put (cs := #[.int .u64 0, .int .u64 0, .slice none 0 0]) ?_ 0 _ rfl; (with_reducible repeat (first | refine blk_drewN ?_ _ | refine blk_drew ?_ | refine blk_alloc ?_ _)); exact BK282.out)) : gb282 ≠ gb283)); have n12_ := Aside0.mk ((by rw [hg]; exact Nat.ne_of_gt (blk_lt (g := gb282) (o := .cells #[.int .u64 t273, .int .u64 t274, .slice Ao20 t275.length co20] 25 (0, 0)) (by (with_reducible repeat (first | refine blk_drewN ?_ _ | refine blk_drew ?_ | refine blk_alloc ?_ _)); refine blk_put (cs := #[.int .u64 t273, .int .u64 t274, .slice none 0 0]) ?_ 2 _ rfl; (with_reducible repeat (first | refine blk_drewN ?_ _ | refine blk_drew ?_ | refine blk_alloc ?_ _)); refine blk_put (cs := #[.int .u64 t273, .int .u64 0, .slice none 0 0]) ?_ 1 _ rfl; (with_reducible repeat (first | refine blk_drewN ?_ _ | refine blk_drew ?_ | refine blk_alloc ?_ _)); refine blk_put (cs := #[.int .u64 0, .int .u64 0, .slice none 0 0]) ?_ 0 _ rfl; (with_reducible repeat (first | refine blk_drewN ?_ _ | refine blk_drew ?_ | refine blk_alloc ?_ _)); exact BK282.out)) : gb283 ≠ gb282)); clear HO_271002; clear HO277; clear HO280; clear BK270; clear BK282; clear HB; have HO_271002 := n0_; have HO277 := n1_; have HO280 := n2_; have BK270 := n3_; have BK282 := n4_; have HB := n5_; have BK283 := n6_; have GW283 := n7_; have GE283 := n8_; have NB270_283 := n9_; have NB283_270 := n10_; have NB282_283 := n11_; have NB283_282 := n12_; clear n0_ n1_ n2_ n3_ n4_ n5_ n6_ n7_ n8_ n9_ n10_ n11_ n12_; clear hb hbox hg; have hnb23 := NB283_270.out; have hnc23 := NB270_283.out; have hnb24 := NB283_282.out; have hnc24 := NB282_283.out; have hcz25_0 : w22.cell? ⟨gb283, 0, none⟩ = some (.int .u64 0) := (blk_cell BK283.out 0).trans rfl; have hcz25_1 : w22.cell? ⟨gb283, 1, none⟩ = some (.int .u64 0) := (blk_cell BK283.out 1).trans rfl; have hcz25_2 : w22.cell? ⟨gb283, 2, none⟩ = some (.slice none 0 0) := (blk_cell BK283.out 2).trans rfl; have hfz25_0 := blk_frozen BK283.out 0; have hfz25_1 := blk_frozen BK283.out 1; have hfz25_2 := blk_frozen BK283.out 2))
          go_loopg [11, 12] kj4 (fun kq v11 v12 w' => ∃ (x11_2 : List Int) (x12_2 : Int) (x284000_2 : Int) (x284001_2 : Int) (x284002_2 : List (S47)) (u284002 : Value), v12 = .int .i64 x12_2 ∧ Aside0 (interchangelaw15_TagsMany.l0 kq a1 true t278 x11_2 x12_2 a0_0 a0_1 l0_2 t273 t274 t275 x284000_2 x284001_2 x284002_2 = some r) ∧ Aside0 (kq ≤ kj4) ∧ Aside0 (Kd.R (Kd.int .u64) 22 w' w.heap.size (fun k_ => (w.heap.size ≤ k_) ∧ some k_ ≠ (v11 : Value).ownBlock) v279 t278) ∧ Aside0 (Kd.R (Kd.int .u64) 22 w' w.heap.size (fun k_ => (w.heap.size ≤ k_) ∧ some k_ ≠ (v279 : Value).ownBlock) v11 x11_2) ∧ Aside0 (Kd.V k47 47 w' w.heap.size (fun k_ => (P0_2_ k_ ∨ w.heap.size ≤ k_) ∧ some k_ ≠ (v279 : Value).ownBlock ∧ some k_ ≠ (v11 : Value).ownBlock ∧ k_ ≠ gb270 ∧ k_ ≠ gb282 ∧ k_ ≠ gb283) (.slice A0_2 l0_2.length c0_2) l0_2) ∧ Aside0 (Kd.V k47 47 w' w.heap.size (fun k_ => (P0_2_ k_ ∨ w.heap.size ≤ k_) ∧ some k_ ≠ (v279 : Value).ownBlock ∧ some k_ ≠ (v11 : Value).ownBlock ∧ k_ ≠ gb270 ∧ k_ ≠ gb282 ∧ k_ ≠ gb283) (.slice Ao20 t275.length co20) t275) ∧ Aside0 (Kd.V k47 47 w' w.heap.size (fun k_ => (P0_2_ k_ ∨ w.heap.size ≤ k_) ∧ some k_ ≠ (v279 : Value).ownBlock ∧ some k_ ≠ (v11 : Value).ownBlock ∧ k_ ≠ gb270 ∧ k_ ≠ gb282 ∧ k_ ≠ gb283) u284002 x284002_2) ∧ Aside0 (w'.heap[gb270]? = some (.cells #[.int .u64 a0_0, .int .u64 a0_1, (.slice A0_2 l0_2.length c0_2)] 25 (0, 0))) ∧ Aside0 (w'.heap[gb282]? = some (.cells #[.int .u64 t273, .int .u64 t274, (.slice Ao20 t275.length co20)] 25 (0, 0))) ∧ Aside0 (w'.heap[gb283]? = some (.cells #[.int .u64 x284000_2, .int .u64 x284001_2, u284002] 25 (0, 0))) ∧ Aside0 (Below w.heap.size w w'))
          case atStart => exact ⟨(([] : List Int)), (0), (a0_0), (a0_1), (l0_2), (.slice A0_2 l0_2.length c0_2), (by first | rfl | (simp; done) | (simp [*]; done)), H', ⟨Nat.le_refl _⟩, ⟨by (with_reducible repeat (first | apply Kd.R_alloc | apply Kd.R_drewN | apply Kd.R_drew)); exact Kd.R_mono (Kd.R_far (p := ⟨gb283, 2, none⟩) (Kd.R_far (p := ⟨gb283, 1, none⟩) (Kd.R_far (p := ⟨gb283, 0, none⟩) (Kd.R_types HO280.out BK283.out (by decide)) (fun _ hk => hk.2) (.int .u64 a0_0)) (fun _ hk => hk.2) (.int .u64 a0_1)) (fun _ hk => hk.2) (.slice A0_2 l0_2.length c0_2)) (fun _ hk => ⟨hk.1.1, (by simp [Value.ownBlock])⟩)⟩, ⟨by first | exact Kd.R_nil _ _ _ _ _ | exact Kd.N_nil _ _ _ _ _ | exact Kd.V_nil _ _ _ _ _ | exact Kd.Q_nil _ _ _ _ _ | exact Kd.S_nil _ _ _ _ _⟩, ⟨by (with_reducible repeat (first | apply Kd.V_alloc | apply Kd.V_drewN | apply Kd.V_drew)); exact Kd.V_mono (Kd.V_far (p := ⟨gb283, 2, none⟩) (Kd.V_far (p := ⟨gb283, 1, none⟩) (Kd.V_far (p := ⟨gb283, 0, none⟩) (Kd.V_mono HO_271002.out (fun k_ hk => (⟨hk, hk.2⟩ : _ ∧ k_ ≠ gb283))) (fun _ hk => hk.2) (.int .u64 a0_0)) (fun _ hk => hk.2) (.int .u64 a0_1)) (fun _ hk => hk.2) (.slice A0_2 l0_2.length c0_2)) (fun _ hk => ⟨hk.1.1.1.1.1, ⟨hk.1.1.1.2, ⟨(by simp [Value.ownBlock]), ⟨hk.1.1.1.1.2, ⟨hk.1.1.2, hk.1.2⟩⟩⟩⟩⟩)⟩, ⟨by (with_reducible repeat (first | apply Kd.V_alloc | apply Kd.V_drewN | apply Kd.V_drew)); exact Kd.V_mono (Kd.V_far (p := ⟨gb283, 2, none⟩) (Kd.V_far (p := ⟨gb283, 1, none⟩) (Kd.V_far (p := ⟨gb283, 0, none⟩) (Kd.V_mono HO277.out (fun k_ hk => (⟨hk, hk.2⟩ : _ ∧ k_ ≠ gb283))) (fun _ hk => hk.2) (.int .u64 a0_0)) (fun _ hk => hk.2) (.int .u64 a0_1)) (fun _ hk => hk.2) (.slice A0_2 l0_2.length c0_2)) (fun _ hk => ⟨hk.1.1.1.1, ⟨hk.1.1.1.2.1, ⟨(by simp [Value.ownBlock]), ⟨hk.1.1.1.2.2, ⟨hk.1.1.2, hk.1.2⟩⟩⟩⟩⟩)⟩, ⟨by (with_reducible repeat (first | apply Kd.V_alloc | apply Kd.V_drewN | apply Kd.V_drew)); exact Kd.V_mono (Kd.V_far (p := ⟨gb283, 2, none⟩) (Kd.V_far (p := ⟨gb283, 1, none⟩) (Kd.V_far (p := ⟨gb283, 0, none⟩) (Kd.V_mono HO_271002.out (fun k_ hk => (⟨hk, hk.2⟩ : _ ∧ k_ ≠ gb283))) (fun _ hk => hk.2) (.int .u64 a0_0)) (fun _ hk => hk.2) (.int .u64 a0_1)) (fun _ hk => hk.2) (.slice A0_2 l0_2.length c0_2)) (fun _ hk => ⟨hk.1.1.1.1.1, ⟨hk.1.1.1.2, ⟨(by simp [Value.ownBlock]), ⟨hk.1.1.1.1.2, ⟨hk.1.1.2, hk.1.2⟩⟩⟩⟩⟩)⟩, ⟨by (with_reducible repeat (first | refine blk_drewN ?_ _ | refine blk_drew ?_ | refine blk_alloc ?_ _)); refine blk_far ?_ NB270_283.out _; (with_reducible repeat (first | refine blk_drewN ?_ _ | refine blk_drew ?_ | refine blk_alloc ?_ _)); refine blk_far ?_ NB270_283.out _; (with_reducible repeat (first | refine blk_drewN ?_ _ | refine blk_drew ?_ | refine blk_alloc ?_ _)); refine blk_far ?_ NB270_283.out _; (with_reducible repeat (first | refine blk_drewN ?_ _ | refine blk_drew ?_ | refine blk_alloc ?_ _)); exact BK270.out⟩, ⟨by (with_reducible repeat (first | refine blk_drewN ?_ _ | refine blk_drew ?_ | refine blk_alloc ?_ _)); refine blk_far ?_ NB282_283.out _; (with_reducible repeat (first | refine blk_drewN ?_ _ | refine blk_drew ?_ | refine blk_alloc ?_ _)); refine blk_far ?_ NB282_283.out _; (with_reducible repeat (first | refine blk_drewN ?_ _ | refine blk_drew ?_ | refine blk_alloc ?_ _)); refine blk_far ?_ NB282_283.out _; (with_reducible repeat (first | refine blk_drewN ?_ _ | refine blk_drew ?_ | refine blk_alloc ?_ _)); exact BK282.out⟩, ⟨by (with_reducible repeat (first | refine blk_drewN ?_ _ | refine blk_drew ?_ | refine blk_alloc ?_ _)); refine blk_put (cs := #[.int .u64 a0_0, .int .u64 a0_1, .slice none 0 0]) ?_ 2 _ rfl; (with_reducible repeat (first | refine blk_drewN ?_ _ | refine blk_drew ?_ | refine blk_alloc ?_ _)); refine blk_put (cs := #[.int .u64 a0_0, .int .u64 0, .slice none 0 0]) ?_ 1 _ rfl; (with_reducible repeat (first | refine blk_drewN ?_ _ | refine blk_drew ?_ | refine blk_alloc ?_ _)); refine blk_put (cs := #[.int .u64 0, .int .u64 0, .slice none 0 0]) ?_ 0 _ rfl; (with_reducible repeat (first | refine blk_drewN ?_ _ | refine blk_drew ?_ | refine blk_alloc ?_ _)); exact BK283.out⟩, ⟨by repeat (first | (with_reducible first | exact HB.out | apply below_alloc | apply pw_below_drewN | apply below_drew1 | refine below_set ?_ GE270.out | refine below_set ?_ GE282.out | refine below_set ?_ GE283.out) | exact HB.out)⟩⟩
          case round =>
            clear H'
            try clear c1
            try clear c2
            try clear p2
            try clear c8
            try clear c9
            try clear c10
            try clear c12
            try clear c14
            try clear c14b0
            try clear c14b1
            try clear c18
            try clear c23
            try clear c24
            try clear hcz11_0
            try clear hcz11_1
            try clear hcz11_2
            try clear hcz15_0
            try clear hcz15_1
            try clear hcz15_2
            try clear hcz19_0
            try clear hcz19_1
            try clear hcz19_2
            try clear hcz21_0
            try clear hcz21_1
            try clear hcz21_2
            try clear hcz25_0
            try clear hcz25_1
            try clear hcz25_2
            try clear hcz8_0
            try clear hcz8_1
            try clear hcz8_2
            try clear hfz11_0
            try clear hfz11_1
            try clear hfz11_2
            try clear hfz15_0
            try clear hfz15_1
            try clear hfz15_2
            try clear hfz19_0
            try clear hfz19_1
            try clear hfz19_2
            try clear hfz21_0
            try clear hfz21_1
            try clear hfz21_2
            try clear hfz25_0
            try clear hfz25_1
            try clear hfz25_2
            try clear hfz8_0
            try clear hfz8_1
            try clear hfz8_2
            try clear p2
            obtain ⟨x11_2, x12_2, x284000_2, x284001_2, x284002_2, u284002, rfl, HA, HK2, HO_8, HO_11, HO_271002, HO_283002, HO_284002, BK270, BK282, BK283, HB⟩ := hrel
            cases gk with
            | zero => exact absurd HA.out (by simp [interchangelaw15_TagsMany.l0])
            | succ k2 =>
              have H := HA.out
              clear HA
              simp only [interchangelaw15_TagsMany.l0] at H
              by_cases c26 : x12_2 < (l0_2.length : Int)
              · rw [if_pos c26] at H
                have c26b0 : decide (x12_2 < (l0_2.length : Int)) = true := decide_eq_true c26
                clear c26
                have HC27 := Aside0.mk H
                clear H
                have hnb28 := NB270_282.out
                have hnc28 := NB282_270.out
                have hnb29 := NB270_283.out
                have hnc29 := NB283_270.out
                have hcz30_0 : wr.cell? ⟨gb270, 0, none⟩ = some (.int .u64 a0_0) := (blk_cell BK270.out 0).trans rfl
                have hcz30_1 : wr.cell? ⟨gb270, 1, none⟩ = some (.int .u64 a0_1) := (blk_cell BK270.out 1).trans rfl
                have hcz30_2 : wr.cell? ⟨gb270, 2, none⟩ = some (.slice A0_2 l0_2.length c0_2) := (blk_cell BK270.out 2).trans rfl
                have hfz30_0 := blk_frozen BK270.out 0
                have hfz30_1 := blk_frozen BK270.out 1
                have hfz30_2 := blk_frozen BK270.out 2
                go_upto_region 13 with (fail)
                go_cut [57] (fun v57 wc => ∃ (kq : Nat) (x57_26 : Bool), v57 = .bool x57_26 ∧ Aside0 (interchangelaw15_TagsMany.j2 kq a1 true t278 x11_2 x12_2 x57_26 a0_0 a0_1 l0_2 t273 t274 t275 x284000_2 x284001_2 x284002_2 = some r) ∧ Aside0 (kq ≤ k2) ∧ Aside0 (Kd.R (Kd.int .u64) 22 wc w.heap.size (fun k_ => (w.heap.size ≤ k_) ∧ some k_ ≠ (u11 : Value).ownBlock) v279 t278) ∧ Aside0 (Kd.R (Kd.int .u64) 22 wc w.heap.size (fun k_ => (w.heap.size ≤ k_) ∧ some k_ ≠ (v279 : Value).ownBlock) u11 x11_2) ∧ Aside0 (Kd.V k47 47 wc w.heap.size (fun k_ => (P0_2_ k_ ∨ w.heap.size ≤ k_) ∧ some k_ ≠ (v279 : Value).ownBlock ∧ some k_ ≠ (u11 : Value).ownBlock ∧ k_ ≠ gb270 ∧ k_ ≠ gb282 ∧ k_ ≠ gb283) (.slice A0_2 l0_2.length c0_2) l0_2) ∧ Aside0 (Kd.V k47 47 wc w.heap.size (fun k_ => (P0_2_ k_ ∨ w.heap.size ≤ k_) ∧ some k_ ≠ (v279 : Value).ownBlock ∧ some k_ ≠ (u11 : Value).ownBlock ∧ k_ ≠ gb270 ∧ k_ ≠ gb282 ∧ k_ ≠ gb283) (.slice Ao20 t275.length co20) t275) ∧ Aside0 (Kd.V k47 47 wc w.heap.size (fun k_ => (P0_2_ k_ ∨ w.heap.size ≤ k_) ∧ some k_ ≠ (v279 : Value).ownBlock ∧ some k_ ≠ (u11 : Value).ownBlock ∧ k_ ≠ gb270 ∧ k_ ≠ gb282 ∧ k_ ≠ gb283) u284002 x284002_2) ∧ Aside0 (wc.heap[gb270]? = some (.cells #[.int .u64 a0_0, .int .u64 a0_1, (.slice A0_2 l0_2.length c0_2)] 25 (0, 0))) ∧ Aside0 (wc.heap[gb282]? = some (.cells #[.int .u64 t273, .int .u64 t274, (.slice Ao20 t275.length co20)] 25 (0, 0))) ∧ Aside0 (wc.heap[gb283]? = some (.cells #[.int .u64 x284000_2, .int .u64 x284001_2, u284002] 25 (0, 0))) ∧ Aside0 (Below w.heap.size w wc))
                case first =>
                  have H := HC27.out
                  clear HC27
                  by_cases c31 : a1 = 0
                  · rw [if_pos c31] at H
                    have c31b0 : (a1 == 0) = true := beq_iff_eq.mpr c31
                    have c31b1 : (a1 != 0) = false := bne_eq_false_iff_eq.mpr c31
                    clear c31
                    (first | rw [c31b0] | (simp only [i64_w, i32_w]; rw [c31b0]) | skip)
                    have H' := Aside0.mk H
                    clear H
                    go_wp2
                    go_meet
                    case rel => exact ⟨_, (false), (by first | rfl | (simp; done) | (simp [*]; done)), H', ⟨by have := HJ4.out; have := HK2.out; first | omega | exact Nat.le_refl _⟩, ⟨by (with_reducible repeat (first | apply Kd.R_alloc | apply Kd.R_drewN | apply Kd.R_drew)); exact HO_8.out⟩, ⟨by (with_reducible repeat (first | apply Kd.R_alloc | apply Kd.R_drewN | apply Kd.R_drew)); exact HO_11.out⟩, ⟨by (with_reducible repeat (first | apply Kd.V_alloc | apply Kd.V_drewN | apply Kd.V_drew)); exact HO_271002.out⟩, ⟨by (with_reducible repeat (first | apply Kd.V_alloc | apply Kd.V_drewN | apply Kd.V_drew)); exact HO_283002.out⟩, ⟨by (with_reducible repeat (first | apply Kd.V_alloc | apply Kd.V_drewN | apply Kd.V_drew)); exact HO_284002.out⟩, ⟨by (with_reducible repeat (first | refine blk_drewN ?_ _ | refine blk_drew ?_ | refine blk_alloc ?_ _)); exact BK270.out⟩, ⟨by (with_reducible repeat (first | refine blk_drewN ?_ _ | refine blk_drew ?_ | refine blk_alloc ?_ _)); exact BK282.out⟩, ⟨by (with_reducible repeat (first | refine blk_drewN ?_ _ | refine blk_drew ?_ | refine blk_alloc ?_ _)); exact BK283.out⟩, ⟨by repeat (first | (with_reducible first | exact HB.out | apply below_alloc | apply pw_below_drewN | apply below_drew1 | refine below_set ?_ GE270.out | refine below_set ?_ GE282.out | refine below_set ?_ GE283.out) | exact HB.out)⟩⟩
                  · rw [if_neg c31] at H
                    have c31b0 : (a1 == 0) = false := beq_eq_false_iff_ne.mpr c31
                    have c31b1 : (a1 != 0) = true := bne_iff_ne.mpr c31
                    (first | rw [c31b0] | (simp only [i64_w, i32_w]; rw [c31b0]) | skip)
                    by_cases c32 : 0 ≤ x12_2
                    · rw [if_pos c32] at H
                      have c32b0 : decide (0 ≤ x12_2) = true := decide_eq_true c32
                      clear c32
                      have H' := Aside0.mk H
                      clear H
                      have hnb33 := NB270_282.out
                      have hnc33 := NB282_270.out
                      have hnb34 := NB270_283.out
                      have hnc34 := NB283_270.out
                      have hcz35_0 : wr.cell? ⟨gb270, 0, none⟩ = some (.int .u64 a0_0) := (blk_cell BK270.out 0).trans rfl
                      have hcz35_1 : wr.cell? ⟨gb270, 1, none⟩ = some (.int .u64 a0_1) := (blk_cell BK270.out 1).trans rfl
                      have hcz35_2 : wr.cell? ⟨gb270, 2, none⟩ = some (.slice A0_2 l0_2.length c0_2) := (blk_cell BK270.out 2).trans rfl
                      have hfz35_0 := blk_frozen BK270.out 0
                      have hfz35_1 := blk_frozen BK270.out 1
                      have hfz35_2 := blk_frozen BK270.out 2
                      have p286 : 0 ≤ (x12_2 : Int) := of_decide_eq_true (by first | (with_reducible assumption) | assumption)
                      have q286 : x12_2 < (l0_2.length : Int) := of_decide_eq_true (by first | (with_reducible assumption) | assumption)
                      obtain ⟨ad286, e286, hx286_0, hx286_1⟩ := at_T47 (Kd.V_reads' HO_271002.out).2.2 x12_2 p286 q286
                      cases e286
                      replace p286 := eq_true p286
                      replace q286 := eq_true q286
                      go_wp2
                      go_meet
                      case rel => exact ⟨_, (decide (((rd_T47 l0_2 x12_2).f0) > a1)), (by first | rfl | (simp; done) | (simp [*]; done)), H', ⟨by have := HJ4.out; have := HK2.out; first | omega | exact Nat.le_refl _⟩, ⟨by (with_reducible repeat (first | apply Kd.R_alloc | apply Kd.R_drewN | apply Kd.R_drew)); exact HO_8.out⟩, ⟨by (with_reducible repeat (first | apply Kd.R_alloc | apply Kd.R_drewN | apply Kd.R_drew)); exact HO_11.out⟩, ⟨by (with_reducible repeat (first | apply Kd.V_alloc | apply Kd.V_drewN | apply Kd.V_drew)); exact HO_271002.out⟩, ⟨by (with_reducible repeat (first | apply Kd.V_alloc | apply Kd.V_drewN | apply Kd.V_drew)); exact HO_283002.out⟩, ⟨by (with_reducible repeat (first | apply Kd.V_alloc | apply Kd.V_drewN | apply Kd.V_drew)); exact HO_284002.out⟩, ⟨by (with_reducible repeat (first | refine blk_drewN ?_ _ | refine blk_drew ?_ | refine blk_alloc ?_ _)); exact BK270.out⟩, ⟨by (with_reducible repeat (first | refine blk_drewN ?_ _ | refine blk_drew ?_ | refine blk_alloc ?_ _)); exact BK282.out⟩, ⟨by (with_reducible repeat (first | refine blk_drewN ?_ _ | refine blk_drew ?_ | refine blk_alloc ?_ _)); exact BK283.out⟩, ⟨by repeat (first | (with_reducible first | exact HB.out | apply below_alloc | apply pw_below_drewN | apply below_drew1 | refine below_set ?_ GE270.out | refine below_set ?_ GE282.out | refine below_set ?_ GE283.out) | exact HB.out)⟩⟩
                    · rw [if_neg c32] at H
                      exact absurd H (by simp)
                case rest =>
                  clear HC27
                  try clear c1
                  try clear c2
                  try clear p2
                  try clear q2
                  try clear hx2
                  try clear c3
                  try clear c8
                  try clear c9
                  try clear c10
                  try clear c12
                  try clear c14
                  try clear c14b0
                  try clear c14b1
                  try clear c18
                  try clear c23
                  try clear c24
                  try clear c26
                  try clear c26b0
                  try clear c28
                  try clear p28
                  try clear q28
                  try clear hx28
                  try clear c29
                  try clear c31
                  try clear c31b0
                  try clear c31b1
                  try clear c32
                  try clear c32b0
                  try clear c33
                  try clear c34
                  try clear hcz11_0
                  try clear hcz11_1
                  try clear hcz11_2
                  try clear hcz15_0
                  try clear hcz15_1
                  try clear hcz15_2
                  try clear hcz19_0
                  try clear hcz19_1
                  try clear hcz19_2
                  try clear hcz21_0
                  try clear hcz21_1
                  try clear hcz21_2
                  try clear hcz25_0
                  try clear hcz25_1
                  try clear hcz25_2
                  try clear hcz30_0
                  try clear hcz30_1
                  try clear hcz30_2
                  try clear hcz35_0
                  try clear hcz35_1
                  try clear hcz35_2
                  try clear hcz8_0
                  try clear hcz8_1
                  try clear hcz8_2
                  try clear hfz11_0
                  try clear hfz11_1
                  try clear hfz11_2
                  try clear hfz15_0
                  try clear hfz15_1
                  try clear hfz15_2
                  try clear hfz19_0
                  try clear hfz19_1
                  try clear hfz19_2
                  try clear hfz21_0
                  try clear hfz21_1
                  try clear hfz21_2
                  try clear hfz25_0
                  try clear hfz25_1
                  try clear hfz25_2
                  try clear hfz30_0
                  try clear hfz30_1
                  try clear hfz30_2
                  try clear hfz35_0
                  try clear hfz35_1
                  try clear hfz35_2
                  try clear hfz8_0
                  try clear hfz8_1
                  try clear hfz8_2
                  try clear hx286_0
                  try clear hx286_1
                  try clear p2
                  try clear p286
                  try clear q286
                  obtain ⟨kq, x57_26, rfl, HA, HJ26, HO_8, HO_11, HO_271002, HO_283002, HO_284002, BK270, BK282, BK283, HB⟩ := hcut
                  cases kq with
                  | zero => exact absurd HA.out (by simp [interchangelaw15_TagsMany.j2])
                  | succ kj26 =>
                    have H := HA.out
                    clear HA
                    simp only [interchangelaw15_TagsMany.j2] at H
                    by_cases c36 : x57_26 = true
                    · subst c36
                      have H1 : (interchangelaw15_TagsMany.l0 kj26 a1 true t278 x11_2 (wrap64 (x12_2 + 1)) a0_0 a0_1 l0_2 t273 t274 t275 x284000_2 x284001_2 x284002_2) = some r := by rw [if_pos rfl] at H; exact H
                      clear H
                      have H := H1
                      clear H1
                      have H' := Aside0.mk H
                      clear H
                      go_wp2
                      go_roundg kj26
                      case measure => have := HJ4.out; have := HK2.out; have := HJ26.out; omega
                      case rel => exact ⟨(x11_2), (wrap64 (x12_2 + 1)), (x284000_2), (x284001_2), (x284002_2), (u284002), (by first | rfl | (simp; done) | (simp [*]; done)), H', ⟨by have := HJ4.out; have := HK2.out; have := HJ26.out; omega⟩, ⟨by (with_reducible repeat (first | apply Kd.R_alloc | apply Kd.R_drewN | apply Kd.R_drew)); exact HO_8.out⟩, ⟨by (with_reducible repeat (first | apply Kd.R_alloc | apply Kd.R_drewN | apply Kd.R_drew)); exact HO_11.out⟩, ⟨by (with_reducible repeat (first | apply Kd.V_alloc | apply Kd.V_drewN | apply Kd.V_drew)); exact HO_271002.out⟩, ⟨by (with_reducible repeat (first | apply Kd.V_alloc | apply Kd.V_drewN | apply Kd.V_drew)); exact HO_283002.out⟩, ⟨by (with_reducible repeat (first | apply Kd.V_alloc | apply Kd.V_drewN | apply Kd.V_drew)); exact HO_284002.out⟩, ⟨by (with_reducible repeat (first | refine blk_drewN ?_ _ | refine blk_drew ?_ | refine blk_alloc ?_ _)); exact BK270.out⟩, ⟨by (with_reducible repeat (first | refine blk_drewN ?_ _ | refine blk_drew ?_ | refine blk_alloc ?_ _)); exact BK282.out⟩, ⟨by (with_reducible repeat (first | refine blk_drewN ?_ _ | refine blk_drew ?_ | refine blk_alloc ?_ _)); exact BK283.out⟩, ⟨by repeat (first | (with_reducible first | exact HB.out | apply below_alloc | apply pw_below_drewN | apply below_drew1 | refine below_set ?_ GE270.out | refine below_set ?_ GE282.out | refine below_set ?_ GE283.out) | exact HB.out)⟩⟩
                    · replace c36 := Bool.eq_false_iff.mpr c36
                      subst c36
                      have H1 : (if 0 ≤ x12_2 then (if x12_2 < (l0_2.length : Int) then ((tags_Settle.f x284000_2 x284001_2 x284002_2 ((rd_T47 l0_2 x12_2).f0) false).bind fun bt288 => (if bt288.2.2.2.2 = 0 then (if x11_2.length + bt288.2.2.2.1.length < 17592186044416 then (interchangelaw15_TagsMany.l0 kj26 a1 true t278 (x11_2 ++ bt288.2.2.2.1) (wrap64 (x12_2 + 1)) a0_0 a0_1 l0_2 t273 t274 t275 bt288.1 bt288.2.1 bt288.2.2.1) else (none)) else (some false))) else (none)) else (none)) = some r := by rw [if_neg (show ¬ (false = true) by decide)] at H; exact H
                      clear H
                      have H := H1
                      clear H1
                      by_cases c37 : 0 ≤ x12_2
                      · rw [if_pos c37] at H
                        have c37b0 : decide (0 ≤ x12_2) = true := decide_eq_true c37
                        clear c37
                        by_cases c38 : x12_2 < (l0_2.length : Int)
                        · rw [if_pos c38] at H
                          have c38b0 : decide (x12_2 < (l0_2.length : Int)) = true := decide_eq_true c38
                          clear c38
                          replace H := Option.bind_eq_some_iff.mp H
                          obtain ⟨⟨t288, t289, t290, t293, t296⟩, A390, H⟩ := H
                          replace H : (if t296 = 0 then (if x11_2.length + t293.length < 17592186044416 then (interchangelaw15_TagsMany.l0 kj26 a1 true t278 (x11_2 ++ t293) (wrap64 (x12_2 + 1)) a0_0 a0_1 l0_2 t273 t274 t275 t288 t289 t290) else (none)) else (some false)) = some r := H
                          have A39 := Aside0.mk A390
                          clear A390
                          by_cases c40 : t296 = 0
                          · rw [if_pos c40] at H
                            have c40b0 : (t296 == 0) = true := beq_iff_eq.mpr c40
                            have c40b1 : (t296 != 0) = false := bne_eq_false_iff_eq.mpr c40
                            clear c40
                            by_cases c41 : x11_2.length + t293.length < 17592186044416
                            · rw [if_pos c41] at H
                              have LMc41 := Aside0.mk c41
                              clear c41
                              obtain ⟨y298, hy298⟩ : ∃ y_ : List Int, y_ = (x11_2 ++ t293) := ⟨_, rfl⟩
                              replace H : (interchangelaw15_TagsMany.l0 kj26 a1 true t278 y298 (wrap64 (x12_2 + 1)) a0_0 a0_1 l0_2 t273 t274 t275 t288 t289 t290) = some r := by first | (rw [hy298]; with_reducible exact H) | (have H2_ := (Option.bind_some _ _).symm.trans H; rw [hy298]; with_reducible exact H2_) | (have H2_ := (Option.bind_some _ _).symm.trans H; with_reducible exact H2_) | with_reducible exact H | (rw [hy298]; exact H) | exact H
                              have Ny298 := Aside0.mk hy298
                              clear hy298
                              have H' := Aside0.mk H
                              clear H
                              obtain ⟨Ao42, co42, eo42⟩ := Kd.V_slice HO_284002.out
                              subst eo42
                              try go_wp2
                              have n0_ := Aside0.mk (Kd.R_drew HO_8.out)
                              have n1_ := Aside0.mk (Kd.R_drew HO_11.out)
                              have n2_ := Aside0.mk (Kd.V_drew HO_271002.out)
                              have n3_ := Aside0.mk (Kd.V_drew HO_283002.out)
                              have n4_ := Aside0.mk (Kd.V_drew HO_284002.out)
                              have n5_ := Aside0.mk (blk_drew BK270.out)
                              have n6_ := Aside0.mk (blk_drew BK282.out)
                              have n7_ := Aside0.mk (blk_drew BK283.out)
                              have n8_ := Aside0.mk (below_drew1 HB.out)
                              clear HO_8
                              clear HO_11
                              clear HO_271002
                              clear HO_283002
                              clear HO_284002
                              clear BK270
                              clear BK282
                              clear BK283
                              clear HB
                              have HO_8 := n0_
                              have HO_11 := n1_
                              have HO_271002 := n2_
                              have HO_283002 := n3_
                              have HO_284002 := n4_
                              have BK270 := n5_
                              have BK282 := n6_
                              have BK283 := n7_
                              have HB := n8_
                              clear n0_ n1_ n2_ n3_ n4_ n5_ n6_ n7_ n8_
                              have p287 : 0 ≤ (x12_2 : Int) := of_decide_eq_true (by first | (with_reducible assumption) | assumption)
                              have q287 : x12_2 < (l0_2.length : Int) := of_decide_eq_true (by first | (with_reducible assumption) | assumption)
                              obtain ⟨ad287, e287, hx287_0, hx287_1⟩ := at_T47 (Kd.V_reads' HO_271002.out).2.2 x12_2 p287 q287
                              cases e287
                              replace p287 := eq_true p287
                              replace q287 := eq_true q287
                              refine start_ (n := 16) (S := fun w' => w'.cell? ⟨gb283, 0, none⟩ = some (.int .u64 x284000_2) ∧ w'.cell? ⟨gb283, 1, none⟩ = some (.int .u64 x284001_2) ∧ w'.cell? ⟨gb283, 2, none⟩ = some (.slice Ao42 x284002_2.length co42) ∧ w'.cell? ⟨gb270, 0, none⟩ = some (.int .u64 a0_0) ∧ w'.cell? ⟨gb270, 1, none⟩ = some (.int .u64 a0_1) ∧ w'.cell? ⟨gb270, 2, none⟩ = some (.slice (some ad287) l0_2.length c0_2) ∧ w'.cell? (ad287.add ((x12_2).toNat * 2)) = some (.int .u64 ((rd_T47 l0_2 x12_2).f0)) ∧ w'.cell? ⟨(ad287.add ((x12_2).toNat * 2)).block, (ad287.add ((x12_2).toNat * 2)).off + 1, none⟩ = some (.int .u64 ((rd_T47 l0_2 x12_2).f1))) (ds := []) #[false, false, false, false, false, false, false, false, false, false, false, false, false, false, false, false] (by kernel_rfl) rfl rfl ⟨(blk_cell BK283.out 0).trans rfl, (blk_cell BK283.out 1).trans rfl, (blk_cell BK283.out 2).trans rfl, (blk_cell BK270.out 0).trans rfl, (blk_cell BK270.out 1).trans rfl, (blk_cell BK270.out 2).trans rfl, hx287_0, hx287_1⟩ (fun hHeld => ?_); refine with_tabW interchangelaw15_TagsMany.tab14 interchangelaw15_TagsMany.bits14 (fun HT_ HW_ => ?_)
                              generalize wc.drew = w43 at HO_8 HO_11 HO_271002 HO_283002 HO_284002 BK270 BK282 BK283 HB hx287_0 hx287_1 hHeld ⊢
                              refine pure_ (i := 1) (N := some 60) (v := ?_) (a' := ?_) #[false, true, false, false, false, false, false, false, false, false, false, false, false, false, false, false] rfl rfl (any_of HT_.out (by kernel_rfl)) (fun _ _ _ h => h) (Or.inl ⟨by rfl, ?_⟩) ?_ ?_
                              rotate_left
                              · intro w'
                                go_simp
                                with_reducible rfl
                              rotate_left
                              · simp only [Act.put, List.setIfInBounds_toArray, List.set_cons_zero, List.set_cons_succ, i64_w, i32_w]
                                rfl
                              refine pure_ (i := 3) (N := some 62) (v := ?_) (a' := ?_) #[false, true, false, true, false, false, false, false, false, false, false, false, false, false, false, false] rfl rfl (any_of HT_.out (by kernel_rfl)) (fun _ _ _ h => h) (Or.inl ⟨by rfl, ?_⟩) ?_ ?_
                              rotate_left
                              · intro w'
                                go_simp
                                with_reducible rfl
                              rotate_left
                              · simp only [Act.put, List.setIfInBounds_toArray, List.set_cons_zero, List.set_cons_succ, i64_w, i32_w]
                                rfl
                              refine take_ (i := 0) (N := some 59) (v := ?_) (a' := ?_) #[true, true, false, true, false, false, false, false, false, false, false, false, false, false, false, false] rfl rfl (take_ofW HT_.out HW_.out (by kernel_rfl)) (fun _ _ _ h => h) (Or.inl ⟨by rfl, ?_⟩) hHeld ?_ ?_
                              rotate_left
                              · rintro w' ⟨s0, s1, s2, s3, s4, s5, s6, s7⟩
                                go_simp
                                with_reducible rfl
                              rotate_left
                              · simp only [Act.put, List.setIfInBounds_toArray, List.set_cons_zero, List.set_cons_succ, i64_w, i32_w]
                                rfl
                              refine take_ (i := 2) (N := some 61) (v := ?_) (a' := ?_) #[true, true, true, true, false, false, false, false, false, false, false, false, false, false, false, false] rfl rfl (take_ofW HT_.out HW_.out (by kernel_rfl)) (fun _ _ _ h => h) (Or.inl ⟨by rfl, ?_⟩) hHeld ?_ ?_
                              rotate_left
                              · rintro w' ⟨s0, s1, s2, s3, s4, s5, s6, s7⟩
                                go_simp
                                with_reducible rfl
                              rotate_left
                              · simp only [Act.put, List.setIfInBounds_toArray, List.set_cons_zero, List.set_cons_succ, i64_w, i32_w]
                                rfl
                              refine pure_ (i := 4) (N := some 63) (v := ?_) (a' := ?_) #[true, true, true, true, true, false, false, false, false, false, false, false, false, false, false, false] rfl rfl (any_of HT_.out (by kernel_rfl)) (fun _ _ _ h => h) (Or.inl ⟨by rfl, ?_⟩) ?_ ?_
                              rotate_left
                              · intro w'
                                go_simp
                                with_reducible rfl
                              rotate_left
                              · simp only [Act.put, List.setIfInBounds_toArray, List.set_cons_zero, List.set_cons_succ, i64_w, i32_w]
                                rfl
                              refine pure_ (i := 5) (N := some 64) (v := ?_) (a' := ?_) #[true, true, true, true, true, true, false, false, false, false, false, false, false, false, false, false] rfl rfl (any_of HT_.out (by kernel_rfl)) (fun _ _ _ h => h) (Or.inl ⟨by rfl, ?_⟩) ?_ ?_
                              rotate_left
                              · intro w'
                                go_simp
                                with_reducible rfl
                              rotate_left
                              · simp only [Act.put, List.setIfInBounds_toArray, List.set_cons_zero, List.set_cons_succ, i64_w, i32_w]
                                rfl
                              refine take_ (i := 6) (N := some 65) (v := ?_) (a' := ?_) #[true, true, true, true, true, true, true, false, false, false, false, false, false, false, false, false] rfl rfl (take_ofW HT_.out HW_.out (by kernel_rfl)) (fun _ _ _ h => h) (Or.inl ⟨by rfl, ?_⟩) hHeld ?_ ?_
                              rotate_left
                              · rintro w' ⟨s0, s1, s2, s3, s4, s5, s6, s7⟩
                                go_simp
                                with_reducible rfl
                              rotate_left
                              · simp only [Act.put, List.setIfInBounds_toArray, List.set_cons_zero, List.set_cons_succ, i64_w, i32_w]
                                rfl
                              refine join_ (σ := Value × Value × Nat) 3 #[true, true, true, true, true, true, true, true, true, true, true, true, true, false, false, false] (fun s_ => [(66, .tuple #[.agg #[.int .u64 t288, .int .u64 t289, s_.1], s_.2.1, .int .i64 t296]), (13, .pointer (some ⟨s_.2.2, 0, none⟩)), (58, .tuple #[.agg #[.int .u64 t288, .int .u64 t289, s_.1], s_.2.1, .int .i64 t296]), (67, .agg #[.int .u64 t288, .int .u64 t289, s_.1]), (68, s_.2.1), (69, .int .i64 t296)]) (fun s_ w' => (w'.cell? ⟨gb283, 0, none⟩ = some (.int .u64 x284000_2) ∧ w'.cell? ⟨gb283, 1, none⟩ = some (.int .u64 x284001_2) ∧ w'.cell? ⟨gb283, 2, none⟩ = some (.slice Ao42 x284002_2.length co42) ∧ w'.cell? ⟨gb270, 0, none⟩ = some (.int .u64 a0_0) ∧ w'.cell? ⟨gb270, 1, none⟩ = some (.int .u64 a0_1) ∧ w'.cell? ⟨gb270, 2, none⟩ = some (.slice (some ad287) l0_2.length c0_2) ∧ w'.cell? (ad287.add ((x12_2).toNat * 2)) = some (.int .u64 ((rd_T47 l0_2 x12_2).f0)) ∧ w'.cell? ⟨(ad287.add ((x12_2).toNat * 2)).block, (ad287.add ((x12_2).toNat * 2)).off + 1, none⟩ = some (.int .u64 ((rd_T47 l0_2 x12_2).f1))) ∧ (Kd.V k47 47 w' w.heap.size (fun k_ => (P0_2_ k_ ∨ w.heap.size ≤ k_) ∧ some k_ ≠ (s_.2.1 : Value).ownBlock ∧ some k_ ≠ (u11 : Value).ownBlock ∧ some k_ ≠ (v279 : Value).ownBlock ∧ k_ ≠ gb270 ∧ k_ ≠ gb282 ∧ k_ ≠ gb283 ∧ k_ ≠ s_.2.2) s_.1 t290) ∧ (Kd.R (Kd.int .u64) 22 w' w.heap.size (fun k_ => (w.heap.size ≤ k_) ∧ some k_ ≠ (u11 : Value).ownBlock ∧ some k_ ≠ (v279 : Value).ownBlock) s_.2.1 t293) ∧ (Kd.R (Kd.int .u64) 22 w' w.heap.size (fun k_ => (w.heap.size ≤ k_) ∧ some k_ ≠ (s_.2.1 : Value).ownBlock ∧ some k_ ≠ (v279 : Value).ownBlock) u11 x11_2) ∧ (Kd.V k47 47 w' w.heap.size (fun k_ => (P0_2_ k_ ∨ w.heap.size ≤ k_) ∧ some k_ ≠ (s_.2.1 : Value).ownBlock ∧ some k_ ≠ (u11 : Value).ownBlock ∧ some k_ ≠ (v279 : Value).ownBlock ∧ k_ ≠ gb270 ∧ k_ ≠ gb282 ∧ k_ ≠ gb283 ∧ k_ ≠ s_.2.2) (.slice (some ad287) l0_2.length c0_2) l0_2) ∧ (Kd.V k47 47 w' w.heap.size (fun k_ => (P0_2_ k_ ∨ w.heap.size ≤ k_) ∧ some k_ ≠ (s_.2.1 : Value).ownBlock ∧ some k_ ≠ (u11 : Value).ownBlock ∧ some k_ ≠ (v279 : Value).ownBlock ∧ k_ ≠ gb270 ∧ k_ ≠ gb282 ∧ k_ ≠ gb283 ∧ k_ ≠ s_.2.2) (.slice Ao20 t275.length co20) t275) ∧ (Kd.V k47 47 w' w.heap.size (fun k_ => (P0_2_ k_ ∨ w.heap.size ≤ k_) ∧ some k_ ≠ (s_.2.1 : Value).ownBlock ∧ some k_ ≠ (u11 : Value).ownBlock ∧ some k_ ≠ (v279 : Value).ownBlock ∧ k_ ≠ gb270 ∧ k_ ≠ gb282 ∧ k_ ≠ gb283 ∧ k_ ≠ s_.2.2) (.slice Ao42 x284002_2.length co42) x284002_2) ∧ (Kd.R (Kd.int .u64) 22 w' w.heap.size (fun k_ => (w.heap.size ≤ k_) ∧ some k_ ≠ (s_.2.1 : Value).ownBlock ∧ some k_ ≠ (u11 : Value).ownBlock) v279 t278) ∧ (w'.heap[gb270]? = some (.cells #[.int .u64 a0_0, .int .u64 a0_1, .slice (some ad287) l0_2.length c0_2] 25 (0, 0))) ∧ (w'.heap[gb282]? = some (.cells #[.int .u64 t273, .int .u64 t274, .slice Ao20 t275.length co20] 25 (0, 0))) ∧ (w'.heap[gb283]? = some (.cells #[.int .u64 x284000_2, .int .u64 x284001_2, .slice Ao42 x284002_2.length co42] 25 (0, 0))) ∧ (w'.heap[s_.2.2]? = some (.cells #[.int .u64 0, .int .u64 0, .slice none 0 0] 25 (0, 0))) ∧ (w.heap.size ≤ s_.2.2) ∧ (w.heap.size ≤ s_.2.2) ∧ (gb270 ≠ s_.2.2) ∧ (s_.2.2 ≠ gb270) ∧ (gb282 ≠ s_.2.2) ∧ (s_.2.2 ≠ gb282) ∧ (gb283 ≠ s_.2.2) ∧ (s_.2.2 ≠ gb283) ∧ (Below w.heap.size w w')) ?_ ?_
                              rotate_left
                              · intro hCont
                                refine two_ (i := 7) (j := 12) (Ni := some 66) (Nj := some 13) #[true, true, true, true, true, true, true, true, false, false, false, false, false, false, false, false] #[true, true, true, true, true, true, true, false, false, false, false, false, true, false, false, false] rfl rfl rfl rfl (two_of HT_.out (by kernel_rfl)) (by decide) (by decide) (fun K hK => ?_) (fun K hK => ?_)
                                · skip
                                  refine goes_ Try.func12 (by kernel_rfl) rfl #[.agg #[.int .u64 x284000_2, .int .u64 x284001_2, .slice Ao42 x284002_2.length co42], .int .u64 ((rd_T47 l0_2 x12_2).f0), .bool false] (by rfl) rfl rfl (by (try simp only [List.map_toArray, List.map_cons, List.map_nil]); first | done | rfl | (simp only [List.length_drop, List.length_take]; rfl)) ?_
                                  with_reducible refine (tags_Settle.calls x284000_2 x284001_2 (fun k_ => ((P0_2_ k_ ∨ w.heap.size ≤ k_) ∧ (some k_ ≠ (v279 : Value).ownBlock ∧ (some k_ ≠ (u11 : Value).ownBlock ∧ (k_ ≠ gb270 ∧ (k_ ≠ gb282 ∧ k_ ≠ gb283)))))) _ _ x284002_2 ((rd_T47 l0_2 x12_2).f0) false t288 t289 t290 t293 t296 _ ?side1 A39.out).mono ?_
                                  (case side1 => exact HO_284002.out)
                                  rintro e w44 ⟨v291, v294, rfl, ho0, ho1, hb⟩
                                  have HS6_ := (hb.cell (World.block_lt_of_cell? _ _ (hHeld.2.2.2.2.2.2.1))).trans (hHeld.2.2.2.2.2.2.1)
                                  have HS7_ := (hb.cell (World.block_lt_of_cell? _ _ (hHeld.2.2.2.2.2.2.2))).trans (hHeld.2.2.2.2.2.2.2)
                                  refine ⟨_, rfl, ?_⟩
                                  have n0_ := Aside0.mk (Kd.R_elder' (by (with_reducible repeat (first | apply Kd.R_alloc | apply Kd.R_drewN | apply Kd.R_drew)); exact HO_8.out) (Kd.R_base ho1) hb)
                                  have n1_ := Aside0.mk (Kd.R_elder' (by (with_reducible repeat (first | apply Kd.R_alloc | apply Kd.R_drewN | apply Kd.R_drew)); exact HO_11.out) (Kd.R_base ho1) hb)
                                  have n2_ := Aside0.mk (Kd.V_elder' (by (with_reducible repeat (first | apply Kd.V_alloc | apply Kd.V_drewN | apply Kd.V_drew)); exact HO_271002.out) (Kd.R_base ho1) hb)
                                  have n3_ := Aside0.mk (Kd.V_elder' (by (with_reducible repeat (first | apply Kd.V_alloc | apply Kd.V_drewN | apply Kd.V_drew)); exact HO_283002.out) (Kd.R_base ho1) hb)
                                  have n4_ := Aside0.mk (Kd.V_elder' (by (with_reducible repeat (first | apply Kd.V_alloc | apply Kd.V_drewN | apply Kd.V_drew)); exact HO_284002.out) (Kd.R_base ho1) hb)
                                  have n5_ := Aside0.mk (Kd.V_lower (Kd.V_mono (ok' := fun k_ => (P0_2_ k_ ∨ w.heap.size ≤ k_) ∧ some k_ ≠ (v294 : Value).ownBlock ∧ some k_ ≠ (v279 : Value).ownBlock ∧ some k_ ≠ (u11 : Value).ownBlock ∧ k_ ≠ gb270 ∧ k_ ≠ gb282 ∧ k_ ≠ gb283) ho0 (fun k_ hk_ => ⟨Or.elim hk_.1 (fun hs_ => hs_.1) (fun hn_ => (.inr (Nat.le_trans (below_size (by repeat (first | (with_reducible first | exact HB.out | apply below_alloc | apply pw_below_drewN | apply below_drew1 | refine below_set ?_ GE270.out | refine below_set ?_ GE282.out | refine below_set ?_ GE283.out) | exact HB.out))) hn_))), hk_.2, Or.elim hk_.1 (fun hs_ => hs_.2.1) (fun hn_ => (Kd.fresh' (Kd.R_lt (by (with_reducible repeat (first | apply Kd.R_alloc | apply Kd.R_drewN | apply Kd.R_drew)); exact HO_8.out)) k_ hn_)), Or.elim hk_.1 (fun hs_ => hs_.2.2.1) (fun hn_ => (Kd.fresh' (Kd.R_lt (by (with_reducible repeat (first | apply Kd.R_alloc | apply Kd.R_drewN | apply Kd.R_drew)); exact HO_11.out)) k_ hn_)), Or.elim hk_.1 (fun hs_ => hs_.2.2.2.1) (fun hn_ => (Kd.freshB (g := gb270) (o := .cells #[.int .u64 a0_0, .int .u64 a0_1, .slice (some ad287) l0_2.length c0_2] 25 (0, 0)) (by (with_reducible repeat (first | refine blk_drewN ?_ _ | refine blk_drew ?_ | refine blk_alloc ?_ _)); exact BK270.out) k_ hn_)), Or.elim hk_.1 (fun hs_ => hs_.2.2.2.2.1) (fun hn_ => (Kd.freshB (g := gb282) (o := .cells #[.int .u64 t273, .int .u64 t274, .slice Ao20 t275.length co20] 25 (0, 0)) (by (with_reducible repeat (first | refine blk_drewN ?_ _ | refine blk_drew ?_ | refine blk_alloc ?_ _)); exact BK282.out) k_ hn_)), Or.elim hk_.1 (fun hs_ => hs_.2.2.2.2.2) (fun hn_ => (Kd.freshB (g := gb283) (o := .cells #[.int .u64 x284000_2, .int .u64 x284001_2, .slice Ao42 x284002_2.length co42] 25 (0, 0)) (by (with_reducible repeat (first | refine blk_drewN ?_ _ | refine blk_drew ?_ | refine blk_alloc ?_ _)); exact BK283.out) k_ hn_))⟩)) (below_size (by repeat (first | (with_reducible first | exact HB.out | apply below_alloc | apply pw_below_drewN | apply below_drew1 | refine below_set ?_ GE270.out | refine below_set ?_ GE282.out | refine below_set ?_ GE283.out) | exact HB.out))))
                                  have n6_ := Aside0.mk (Kd.R_lower (Kd.R_new' (Kd.R_new' (Kd.R_newM (M := fun k_ => (w.heap.size ≤ k_)) (Kd.R_mono (ok' := fun k_ => True) ho1 (fun _ hk_ => trivial)) (below_size (by repeat (first | (with_reducible first | exact HB.out | apply below_alloc | apply pw_below_drewN | apply below_drew1 | refine below_set ?_ GE270.out | refine below_set ?_ GE282.out | refine below_set ?_ GE283.out) | exact HB.out))) (fun k_ h_ => h_)) (Kd.R_lt (by (with_reducible repeat (first | apply Kd.R_alloc | apply Kd.R_drewN | apply Kd.R_drew)); exact HO_8.out))) (Kd.R_lt (by (with_reducible repeat (first | apply Kd.R_alloc | apply Kd.R_drewN | apply Kd.R_drew)); exact HO_11.out))) (below_size (by repeat (first | (with_reducible first | exact HB.out | apply below_alloc | apply pw_below_drewN | apply below_drew1 | refine below_set ?_ GE270.out | refine below_set ?_ GE282.out | refine below_set ?_ GE283.out) | exact HB.out))))
                                  have n7_ := Aside0.mk (blk_below (g := gb270) (o := .cells #[.int .u64 a0_0, .int .u64 a0_1, .slice (some ad287) l0_2.length c0_2] 25 (0, 0)) (by (with_reducible repeat (first | refine blk_drewN ?_ _ | refine blk_drew ?_ | refine blk_alloc ?_ _)); exact BK270.out) hb)
                                  have n8_ := Aside0.mk (blk_below (g := gb282) (o := .cells #[.int .u64 t273, .int .u64 t274, .slice Ao20 t275.length co20] 25 (0, 0)) (by (with_reducible repeat (first | refine blk_drewN ?_ _ | refine blk_drew ?_ | refine blk_alloc ?_ _)); exact BK282.out) hb)
                                  have n9_ := Aside0.mk (blk_below (g := gb283) (o := .cells #[.int .u64 x284000_2, .int .u64 x284001_2, .slice Ao42 x284002_2.length co42] 25 (0, 0)) (by (with_reducible repeat (first | refine blk_drewN ?_ _ | refine blk_drew ?_ | refine blk_alloc ?_ _)); exact BK283.out) hb)
                                  have n10_ := Aside0.mk (below_step (by repeat (first | (with_reducible first | exact HB.out | apply below_alloc | apply pw_below_drewN | apply below_drew1 | refine below_set ?_ GE270.out | refine below_set ?_ GE282.out | refine below_set ?_ GE283.out) | exact HB.out)) hb)
                                  clear HO_8
                                  clear HO_11
                                  clear HO_271002
                                  clear HO_283002
                                  clear HO_284002
                                  clear BK270
                                  clear BK282
                                  clear BK283
                                  clear HB
                                  have HO_8 := n0_
                                  have HO_11 := n1_
                                  have HO_271002 := n2_
                                  have HO_283002 := n3_
                                  have HO_284002 := n4_
                                  have HO292 := n5_
                                  have HO295 := n6_
                                  have BK270 := n7_
                                  have BK282 := n8_
                                  have BK283 := n9_
                                  have HB := n10_
                                  clear n0_ n1_ n2_ n3_ n4_ n5_ n6_ n7_ n8_ n9_ n10_
                                  (try clear hb)
                                  (try clear hb2)
                                  (try clear hk)
                                  (try clear hi)
                                  (try clear ho0)
                                  (try clear ho1)
                                  refine hK.out _ _ ⟨(blk_cell BK283.out 0).trans rfl, (blk_cell BK283.out 1).trans rfl, (blk_cell BK283.out 2).trans rfl, (blk_cell BK270.out 0).trans rfl, (blk_cell BK270.out 1).trans rfl, (blk_cell BK270.out 2).trans rfl, HS6_, HS7_⟩ (fun hHeld => ?_)
                                  clear hK K
                                  refine norm_ (a' := ?_) ?_ ?_
                                  rotate_left
                                  · show Act.put _ (some 66) _ = _
                                    simp only [Act.put, List.setIfInBounds_toArray, List.set_cons_zero, List.set_cons_succ, i64_w, i32_w]
                                    rfl
                                  refine pure_ (i := 8) (N := some 58) (v := ?_) (a' := ?_) #[true, true, true, true, true, true, true, true, true, false, false, false, false, false, false, false] rfl rfl (any_of HT_.out (by kernel_rfl)) (fun _ _ _ h => h) (Or.inl ⟨by rfl, ?_⟩) ?_ ?_
                                  rotate_left
                                  · intro w'
                                    go_simp
                                    with_reducible rfl
                                  rotate_left
                                  · simp only [Act.put, List.setIfInBounds_toArray, List.set_cons_zero, List.set_cons_succ, i64_w, i32_w]
                                    rfl
                                  refine pure_ (i := 9) (N := some 67) (v := ?_) (a' := ?_) #[true, true, true, true, true, true, true, true, true, true, false, false, false, false, false, false] rfl rfl (any_of HT_.out (by kernel_rfl)) (fun _ _ _ h => h) (Or.inl ⟨by rfl, ?_⟩) ?_ ?_
                                  rotate_left
                                  · intro w'
                                    go_simp
                                    with_reducible rfl
                                  rotate_left
                                  · simp only [Act.put, List.setIfInBounds_toArray, List.set_cons_zero, List.set_cons_succ, i64_w, i32_w]
                                    rfl
                                  refine pure_ (i := 10) (N := some 68) (v := ?_) (a' := ?_) #[true, true, true, true, true, true, true, true, true, true, true, false, false, false, false, false] rfl rfl (any_of HT_.out (by kernel_rfl)) (fun _ _ _ h => h) (Or.inl ⟨by rfl, ?_⟩) ?_ ?_
                                  rotate_left
                                  · intro w'
                                    go_simp
                                    with_reducible rfl
                                  rotate_left
                                  · simp only [Act.put, List.setIfInBounds_toArray, List.set_cons_zero, List.set_cons_succ, i64_w, i32_w]
                                    rfl
                                  refine pure_ (i := 11) (N := some 69) (v := ?_) (a' := ?_) #[true, true, true, true, true, true, true, true, true, true, true, true, false, false, false, false] rfl rfl (any_of HT_.out (by kernel_rfl)) (fun _ _ _ h => h) (Or.inl ⟨by rfl, ?_⟩) ?_ ?_
                                  rotate_left
                                  · intro w'
                                    go_simp
                                    with_reducible rfl
                                  rotate_left
                                  · simp only [Act.put, List.setIfInBounds_toArray, List.set_cons_zero, List.set_cons_succ, i64_w, i32_w]
                                    rfl
                                  refine one_ (i := 12) (N := some 13) #[true, true, true, true, true, true, true, true, true, true, true, true, true, false, false, false] rfl rfl (one_of HT_.out (by kernel_rfl)) (by decide) (fun K hK => ?_)
                                  refine box_step ?hg (N := 13) ?hd (cs := #[.int .u64 0, .int .u64 0, .slice none 0 0]) (t := 25) ?hr ?_; (case hd => rfl); (case hg => rfl); (case hr => first | (go_simp; done) | (go_simp; rfl))
                                  intro gb297 hg w45 hbox hb
                                  have HS6_ := (hb.cell (World.block_lt_of_cell? _ _ (hHeld.2.2.2.2.2.2.1))).trans (hHeld.2.2.2.2.2.2.1)
                                  have HS7_ := (hb.cell (World.block_lt_of_cell? _ _ (hHeld.2.2.2.2.2.2.2))).trans (hHeld.2.2.2.2.2.2.2)
                                  have n0_ := Aside0.mk (Kd.R_below (by (with_reducible repeat (first | apply Kd.R_alloc | apply Kd.R_drewN | apply Kd.R_drew)); exact HO_8.out) hb)
                                  have n1_ := Aside0.mk (Kd.R_below (by (with_reducible repeat (first | apply Kd.R_alloc | apply Kd.R_drewN | apply Kd.R_drew)); exact HO_11.out) hb)
                                  have n2_ := Aside0.mk (Kd.V_below (Kd.V_elderB (by (with_reducible repeat (first | apply Kd.V_alloc | apply Kd.V_drewN | apply Kd.V_drew)); exact HO_271002.out) gb297 (Nat.le_of_eq hg.symm)) hb)
                                  have n3_ := Aside0.mk (Kd.V_below (Kd.V_elderB (by (with_reducible repeat (first | apply Kd.V_alloc | apply Kd.V_drewN | apply Kd.V_drew)); exact HO_283002.out) gb297 (Nat.le_of_eq hg.symm)) hb)
                                  have n4_ := Aside0.mk (Kd.V_below (Kd.V_elderB (by (with_reducible repeat (first | apply Kd.V_alloc | apply Kd.V_drewN | apply Kd.V_drew)); exact HO_284002.out) gb297 (Nat.le_of_eq hg.symm)) hb)
                                  have n5_ := Aside0.mk (Kd.V_below (Kd.V_elderB (by (with_reducible repeat (first | apply Kd.V_alloc | apply Kd.V_drewN | apply Kd.V_drew)); exact HO292.out) gb297 (Nat.le_of_eq hg.symm)) hb)
                                  have n6_ := Aside0.mk (Kd.R_below (by (with_reducible repeat (first | apply Kd.R_alloc | apply Kd.R_drewN | apply Kd.R_drew)); exact HO295.out) hb)
                                  have n7_ := Aside0.mk (blk_below (g := gb270) (o := .cells #[.int .u64 a0_0, .int .u64 a0_1, .slice (some ad287) l0_2.length c0_2] 25 (0, 0)) (by (with_reducible repeat (first | refine blk_drewN ?_ _ | refine blk_drew ?_ | refine blk_alloc ?_ _)); exact BK270.out) hb)
                                  have n8_ := Aside0.mk (blk_below (g := gb282) (o := .cells #[.int .u64 t273, .int .u64 t274, .slice Ao20 t275.length co20] 25 (0, 0)) (by (with_reducible repeat (first | refine blk_drewN ?_ _ | refine blk_drew ?_ | refine blk_alloc ?_ _)); exact BK282.out) hb)
                                  have n9_ := Aside0.mk (blk_below (g := gb283) (o := .cells #[.int .u64 x284000_2, .int .u64 x284001_2, .slice Ao42 x284002_2.length co42] 25 (0, 0)) (by (with_reducible repeat (first | refine blk_drewN ?_ _ | refine blk_drew ?_ | refine blk_alloc ?_ _)); exact BK283.out) hb)
                                  have n10_ := Aside0.mk (below_step (by repeat (first | (with_reducible first | exact HB.out | apply below_alloc | apply pw_below_drewN | apply below_drew1 | refine below_set ?_ GE270.out | refine below_set ?_ GE282.out | refine below_set ?_ GE283.out) | exact HB.out)) hb)
                                  have n11_ := Aside0.mk (hbox)
                                  have n12_ := Aside0.mk ((by rw [hg]; exact (below_size (by repeat (first | (with_reducible first | exact HB.out | apply below_alloc | apply pw_below_drewN | apply below_drew1 | refine below_set ?_ GE270.out | refine below_set ?_ GE282.out | refine below_set ?_ GE283.out) | exact HB.out))) : w.heap.size ≤ gb297))
                                  have n13_ := Aside0.mk ((by rw [hg]; exact (below_size (by repeat (first | (with_reducible first | exact HB.out | apply below_alloc | apply pw_below_drewN | apply below_drew1 | refine below_set ?_ GE270.out | refine below_set ?_ GE282.out | refine below_set ?_ GE283.out) | exact HB.out))) : w.heap.size ≤ gb297))
                                  have n14_ := Aside0.mk ((by rw [hg]; exact Nat.ne_of_lt (blk_lt (g := gb270) (o := .cells #[.int .u64 a0_0, .int .u64 a0_1, .slice (some ad287) l0_2.length c0_2] 25 (0, 0)) (by (with_reducible repeat (first | refine blk_drewN ?_ _ | refine blk_drew ?_ | refine blk_alloc ?_ _)); exact BK270.out)) : gb270 ≠ gb297))
                                  have n15_ := Aside0.mk ((by rw [hg]; exact Nat.ne_of_gt (blk_lt (g := gb270) (o := .cells #[.int .u64 a0_0, .int .u64 a0_1, .slice (some ad287) l0_2.length c0_2] 25 (0, 0)) (by (with_reducible repeat (first | refine blk_drewN ?_ _ | refine blk_drew ?_ | refine blk_alloc ?_ _)); exact BK270.out)) : gb297 ≠ gb270))
                                  have n16_ := Aside0.mk ((by rw [hg]; exact Nat.ne_of_lt (blk_lt (g := gb282) (o := .cells #[.int .u64 t273, .int .u64 t274, .slice Ao20 t275.length co20] 25 (0, 0)) (by (with_reducible repeat (first | refine blk_drewN ?_ _ | refine blk_drew ?_ | refine blk_alloc ?_ _)); exact BK282.out)) : gb282 ≠ gb297))
                                  have n17_ := Aside0.mk ((by rw [hg]; exact Nat.ne_of_gt (blk_lt (g := gb282) (o := .cells #[.int .u64 t273, .int .u64 t274, .slice Ao20 t275.length co20] 25 (0, 0)) (by (with_reducible repeat (first | refine blk_drewN ?_ _ | refine blk_drew ?_ | refine blk_alloc ?_ _)); exact BK282.out)) : gb297 ≠ gb282))
                                  have n18_ := Aside0.mk ((by rw [hg]; exact Nat.ne_of_lt (blk_lt (g := gb283) (o := .cells #[.int .u64 x284000_2, .int .u64 x284001_2, .slice Ao42 x284002_2.length co42] 25 (0, 0)) (by (with_reducible repeat (first | refine blk_drewN ?_ _ | refine blk_drew ?_ | refine blk_alloc ?_ _)); exact BK283.out)) : gb283 ≠ gb297))
                                  have n19_ := Aside0.mk ((by rw [hg]; exact Nat.ne_of_gt (blk_lt (g := gb283) (o := .cells #[.int .u64 x284000_2, .int .u64 x284001_2, .slice Ao42 x284002_2.length co42] 25 (0, 0)) (by (with_reducible repeat (first | refine blk_drewN ?_ _ | refine blk_drew ?_ | refine blk_alloc ?_ _)); exact BK283.out)) : gb297 ≠ gb283))
                                  clear HO_8
                                  clear HO_11
                                  clear HO_271002
                                  clear HO_283002
                                  clear HO_284002
                                  clear HO292
                                  clear HO295
                                  clear BK270
                                  clear BK282
                                  clear BK283
                                  clear HB
                                  have HO_8 := n0_
                                  have HO_11 := n1_
                                  have HO_271002 := n2_
                                  have HO_283002 := n3_
                                  have HO_284002 := n4_
                                  have HO292 := n5_
                                  have HO295 := n6_
                                  have BK270 := n7_
                                  have BK282 := n8_
                                  have BK283 := n9_
                                  have HB := n10_
                                  have BK297 := n11_
                                  have GW297 := n12_
                                  have GE297 := n13_
                                  have NB270_297 := n14_
                                  have NB297_270 := n15_
                                  have NB282_297 := n16_
                                  have NB297_282 := n17_
                                  have NB283_297 := n18_
                                  have NB297_283 := n19_
                                  clear n0_ n1_ n2_ n3_ n4_ n5_ n6_ n7_ n8_ n9_ n10_ n11_ n12_ n13_ n14_ n15_ n16_ n17_ n18_ n19_
                                  clear hb hbox hg
                                  refine hK.out _ _ ⟨(blk_cell BK283.out 0).trans rfl, (blk_cell BK283.out 1).trans rfl, (blk_cell BK283.out 2).trans rfl, (blk_cell BK270.out 0).trans rfl, (blk_cell BK270.out 1).trans rfl, (blk_cell BK270.out 2).trans rfl, HS6_, HS7_⟩ (fun hHeld => ?_)
                                  clear hK K
                                  refine norm_ (a' := ?_) ?_ ?_
                                  rotate_left
                                  · show Act.put _ (some 13) _ = _
                                    simp only [Act.put, List.setIfInBounds_toArray, List.set_cons_zero, List.set_cons_succ, i64_w, i32_w]
                                    rfl
                                  exact norm_ (by simp only [putAll, Act.put, List.setIfInBounds_toArray, List.set_cons_zero, List.set_cons_succ]) (hCont (v291, v294, gb297) _ ⟨hHeld, (by (with_reducible repeat (first | apply Kd.V_alloc | apply Kd.V_drewN | apply Kd.V_drew)); exact Kd.V_mono HO292.out (fun _ hk => ⟨hk.1.1, ⟨hk.1.2.1, ⟨hk.1.2.2.2.1, ⟨hk.1.2.2.1, ⟨hk.1.2.2.2.2.1, ⟨hk.1.2.2.2.2.2.1, ⟨hk.1.2.2.2.2.2.2, hk.2⟩⟩⟩⟩⟩⟩⟩)), (by (with_reducible repeat (first | apply Kd.R_alloc | apply Kd.R_drewN | apply Kd.R_drew)); exact Kd.R_mono HO295.out (fun _ hk => ⟨hk.1.1.1, ⟨hk.2, hk.1.2⟩⟩)), (by (with_reducible repeat (first | apply Kd.R_alloc | apply Kd.R_drewN | apply Kd.R_drew)); exact Kd.R_mono HO_11.out (fun _ hk => ⟨hk.1.1, ⟨hk.2, hk.1.2⟩⟩)), (by (with_reducible repeat (first | apply Kd.V_alloc | apply Kd.V_drewN | apply Kd.V_drew)); exact Kd.V_mono HO_271002.out (fun _ hk => ⟨hk.1.1.1, ⟨hk.1.2, ⟨hk.1.1.2.2.1, ⟨hk.1.1.2.1, ⟨hk.1.1.2.2.2.1, ⟨hk.1.1.2.2.2.2.1, ⟨hk.1.1.2.2.2.2.2, hk.2⟩⟩⟩⟩⟩⟩⟩)), (by (with_reducible repeat (first | apply Kd.V_alloc | apply Kd.V_drewN | apply Kd.V_drew)); exact Kd.V_mono HO_283002.out (fun _ hk => ⟨hk.1.1.1, ⟨hk.1.2, ⟨hk.1.1.2.2.1, ⟨hk.1.1.2.1, ⟨hk.1.1.2.2.2.1, ⟨hk.1.1.2.2.2.2.1, ⟨hk.1.1.2.2.2.2.2, hk.2⟩⟩⟩⟩⟩⟩⟩)), (by (with_reducible repeat (first | apply Kd.V_alloc | apply Kd.V_drewN | apply Kd.V_drew)); exact Kd.V_mono HO_284002.out (fun _ hk => ⟨hk.1.1.1, ⟨hk.1.2, ⟨hk.1.1.2.2.1, ⟨hk.1.1.2.1, ⟨hk.1.1.2.2.2.1, ⟨hk.1.1.2.2.2.2.1, ⟨hk.1.1.2.2.2.2.2, hk.2⟩⟩⟩⟩⟩⟩⟩)), (by (with_reducible repeat (first | apply Kd.R_alloc | apply Kd.R_drewN | apply Kd.R_drew)); exact Kd.R_mono HO_8.out (fun _ hk => ⟨hk.1.1, ⟨hk.2, hk.1.2⟩⟩)), (by (with_reducible repeat (first | refine blk_drewN ?_ _ | refine blk_drew ?_ | refine blk_alloc ?_ _)); exact BK270.out), (by (with_reducible repeat (first | refine blk_drewN ?_ _ | refine blk_drew ?_ | refine blk_alloc ?_ _)); exact BK282.out), (by (with_reducible repeat (first | refine blk_drewN ?_ _ | refine blk_drew ?_ | refine blk_alloc ?_ _)); exact BK283.out), (by (with_reducible repeat (first | refine blk_drewN ?_ _ | refine blk_drew ?_ | refine blk_alloc ?_ _)); exact BK297.out), GW297.out, GE297.out, NB270_297.out, NB297_270.out, NB282_297.out, NB297_282.out, NB283_297.out, NB297_283.out, (by repeat (first | (with_reducible first | exact HB.out | apply below_alloc | apply pw_below_drewN | apply below_drew1 | refine below_set ?_ GE270.out | refine below_set ?_ GE282.out | refine below_set ?_ GE283.out | refine below_set ?_ GE297.out) | exact HB.out))⟩)
                                · skip
                                  refine box_step ?hg (N := 13) ?hd (cs := #[.int .u64 0, .int .u64 0, .slice none 0 0]) (t := 25) ?hr ?_; (case hd => rfl); (case hg => rfl); (case hr => first | (go_simp; done) | (go_simp; rfl))
                                  intro gb297 hg w44 hbox hb
                                  have HS6_ := (hb.cell (World.block_lt_of_cell? _ _ (hHeld.2.2.2.2.2.2.1))).trans (hHeld.2.2.2.2.2.2.1)
                                  have HS7_ := (hb.cell (World.block_lt_of_cell? _ _ (hHeld.2.2.2.2.2.2.2))).trans (hHeld.2.2.2.2.2.2.2)
                                  have n0_ := Aside0.mk (Kd.R_below (by (with_reducible repeat (first | apply Kd.R_alloc | apply Kd.R_drewN | apply Kd.R_drew)); exact HO_8.out) hb)
                                  have n1_ := Aside0.mk (Kd.R_below (by (with_reducible repeat (first | apply Kd.R_alloc | apply Kd.R_drewN | apply Kd.R_drew)); exact HO_11.out) hb)
                                  have n2_ := Aside0.mk (Kd.V_below (Kd.V_elderB (by (with_reducible repeat (first | apply Kd.V_alloc | apply Kd.V_drewN | apply Kd.V_drew)); exact HO_271002.out) gb297 (Nat.le_of_eq hg.symm)) hb)
                                  have n3_ := Aside0.mk (Kd.V_below (Kd.V_elderB (by (with_reducible repeat (first | apply Kd.V_alloc | apply Kd.V_drewN | apply Kd.V_drew)); exact HO_283002.out) gb297 (Nat.le_of_eq hg.symm)) hb)
                                  have n4_ := Aside0.mk (Kd.V_below (Kd.V_elderB (by (with_reducible repeat (first | apply Kd.V_alloc | apply Kd.V_drewN | apply Kd.V_drew)); exact HO_284002.out) gb297 (Nat.le_of_eq hg.symm)) hb)
                                  have n5_ := Aside0.mk (blk_below (g := gb270) (o := .cells #[.int .u64 a0_0, .int .u64 a0_1, .slice (some ad287) l0_2.length c0_2] 25 (0, 0)) (by (with_reducible repeat (first | refine blk_drewN ?_ _ | refine blk_drew ?_ | refine blk_alloc ?_ _)); exact BK270.out) hb)
                                  have n6_ := Aside0.mk (blk_below (g := gb282) (o := .cells #[.int .u64 t273, .int .u64 t274, .slice Ao20 t275.length co20] 25 (0, 0)) (by (with_reducible repeat (first | refine blk_drewN ?_ _ | refine blk_drew ?_ | refine blk_alloc ?_ _)); exact BK282.out) hb)
                                  have n7_ := Aside0.mk (blk_below (g := gb283) (o := .cells #[.int .u64 x284000_2, .int .u64 x284001_2, .slice Ao42 x284002_2.length co42] 25 (0, 0)) (by (with_reducible repeat (first | refine blk_drewN ?_ _ | refine blk_drew ?_ | refine blk_alloc ?_ _)); exact BK283.out) hb)
                                  have n8_ := Aside0.mk (below_step (by repeat (first | (with_reducible first | exact HB.out | apply below_alloc | apply pw_below_drewN | apply below_drew1 | refine below_set ?_ GE270.out | refine below_set ?_ GE282.out | refine below_set ?_ GE283.out) | exact HB.out)) hb)
                                  have n9_ := Aside0.mk (hbox)
                                  have n10_ := Aside0.mk ((by rw [hg]; exact (below_size (by repeat (first | (with_reducible first | exact HB.out | apply below_alloc | apply pw_below_drewN | apply below_drew1 | refine below_set ?_ GE270.out | refine below_set ?_ GE282.out | refine below_set ?_ GE283.out) | exact HB.out))) : w.heap.size ≤ gb297))
                                  have n11_ := Aside0.mk ((by rw [hg]; exact (below_size (by repeat (first | (with_reducible first | exact HB.out | apply below_alloc | apply pw_below_drewN | apply below_drew1 | refine below_set ?_ GE270.out | refine below_set ?_ GE282.out | refine below_set ?_ GE283.out) | exact HB.out))) : w.heap.size ≤ gb297))
                                  have n12_ := Aside0.mk ((by rw [hg]; exact Nat.ne_of_lt (blk_lt (g := gb270) (o := .cells #[.int .u64 a0_0, .int .u64 a0_1, .slice (some ad287) l0_2.length c0_2] 25 (0, 0)) (by (with_reducible repeat (first | refine blk_drewN ?_ _ | refine blk_drew ?_ | refine blk_alloc ?_ _)); exact BK270.out)) : gb270 ≠ gb297))
                                  have n13_ := Aside0.mk ((by rw [hg]; exact Nat.ne_of_gt (blk_lt (g := gb270) (o := .cells #[.int .u64 a0_0, .int .u64 a0_1, .slice (some ad287) l0_2.length c0_2] 25 (0, 0)) (by (with_reducible repeat (first | refine blk_drewN ?_ _ | refine blk_drew ?_ | refine blk_alloc ?_ _)); exact BK270.out)) : gb297 ≠ gb270))
                                  have n14_ := Aside0.mk ((by rw [hg]; exact Nat.ne_of_lt (blk_lt (g := gb282) (o := .cells #[.int .u64 t273, .int .u64 t274, .slice Ao20 t275.length co20] 25 (0, 0)) (by (with_reducible repeat (first | refine blk_drewN ?_ _ | refine blk_drew ?_ | refine blk_alloc ?_ _)); exact BK282.out)) : gb282 ≠ gb297))
                                  have n15_ := Aside0.mk ((by rw [hg]; exact Nat.ne_of_gt (blk_lt (g := gb282) (o := .cells #[.int .u64 t273, .int .u64 t274, .slice Ao20 t275.length co20] 25 (0, 0)) (by (with_reducible repeat (first | refine blk_drewN ?_ _ | refine blk_drew ?_ | refine blk_alloc ?_ _)); exact BK282.out)) : gb297 ≠ gb282))
                                  have n16_ := Aside0.mk ((by rw [hg]; exact Nat.ne_of_lt (blk_lt (g := gb283) (o := .cells #[.int .u64 x284000_2, .int .u64 x284001_2, .slice Ao42 x284002_2.length co42] 25 (0, 0)) (by (with_reducible repeat (first | refine blk_drewN ?_ _ | refine blk_drew ?_ | refine blk_alloc ?_ _)); exact BK283.out)) : gb283 ≠ gb297))
                                  have n17_ := Aside0.mk ((by rw [hg]; exact Nat.ne_of_gt (blk_lt (g := gb283) (o := .cells #[.int .u64 x284000_2, .int .u64 x284001_2, .slice Ao42 x284002_2.length co42] 25 (0, 0)) (by (with_reducible repeat (first | refine blk_drewN ?_ _ | refine blk_drew ?_ | refine blk_alloc ?_ _)); exact BK283.out)) : gb297 ≠ gb283))
                                  clear HO_8
                                  clear HO_11
                                  clear HO_271002
                                  clear HO_283002
                                  clear HO_284002
                                  clear BK270
                                  clear BK282
                                  clear BK283
                                  clear HB
                                  have HO_8 := n0_
                                  have HO_11 := n1_
                                  have HO_271002 := n2_
                                  have HO_283002 := n3_
                                  have HO_284002 := n4_
                                  have BK270 := n5_
                                  have BK282 := n6_
                                  have BK283 := n7_
                                  have HB := n8_
                                  have BK297 := n9_
                                  have GW297 := n10_
                                  have GE297 := n11_
                                  have NB270_297 := n12_
                                  have NB297_270 := n13_
                                  have NB282_297 := n14_
                                  have NB297_282 := n15_
                                  have NB283_297 := n16_
                                  have NB297_283 := n17_
                                  clear n0_ n1_ n2_ n3_ n4_ n5_ n6_ n7_ n8_ n9_ n10_ n11_ n12_ n13_ n14_ n15_ n16_ n17_
                                  clear hb hbox hg
                                  refine hK.out _ _ ⟨(blk_cell BK283.out 0).trans rfl, (blk_cell BK283.out 1).trans rfl, (blk_cell BK283.out 2).trans rfl, (blk_cell BK270.out 0).trans rfl, (blk_cell BK270.out 1).trans rfl, (blk_cell BK270.out 2).trans rfl, HS6_, HS7_⟩ (fun hHeld => ?_)
                                  clear hK K
                                  refine norm_ (a' := ?_) ?_ ?_
                                  rotate_left
                                  · show Act.put _ (some 13) _ = _
                                    simp only [Act.put, List.setIfInBounds_toArray, List.set_cons_zero, List.set_cons_succ, i64_w, i32_w]
                                    rfl
                                  refine one_ (i := 7) (N := some 66) #[true, true, true, true, true, true, true, true, false, false, false, false, true, false, false, false] rfl rfl (one_of HT_.out (by kernel_rfl)) (by decide) (fun K hK => ?_)
                                  refine goes_ Try.func12 (by kernel_rfl) rfl #[.agg #[.int .u64 x284000_2, .int .u64 x284001_2, .slice Ao42 x284002_2.length co42], .int .u64 ((rd_T47 l0_2 x12_2).f0), .bool false] (by rfl) rfl rfl (by (try simp only [List.map_toArray, List.map_cons, List.map_nil]); first | done | rfl | (simp only [List.length_drop, List.length_take]; rfl)) ?_
                                  with_reducible refine (tags_Settle.calls x284000_2 x284001_2 (fun k_ => (((P0_2_ k_ ∨ w.heap.size ≤ k_) ∧ (some k_ ≠ (v279 : Value).ownBlock ∧ (some k_ ≠ (u11 : Value).ownBlock ∧ (k_ ≠ gb270 ∧ (k_ ≠ gb282 ∧ k_ ≠ gb283))))) ∧ k_ ≠ gb297)) _ _ x284002_2 ((rd_T47 l0_2 x12_2).f0) false t288 t289 t290 t293 t296 _ ?side1 A39.out).mono ?_
                                  (case side1 => exact HO_284002.out)
                                  rintro e w45 ⟨v291, v294, rfl, ho0, ho1, hb⟩
                                  have HS6_ := (hb.cell (World.block_lt_of_cell? _ _ (hHeld.2.2.2.2.2.2.1))).trans (hHeld.2.2.2.2.2.2.1)
                                  have HS7_ := (hb.cell (World.block_lt_of_cell? _ _ (hHeld.2.2.2.2.2.2.2))).trans (hHeld.2.2.2.2.2.2.2)
                                  refine ⟨_, rfl, ?_⟩
                                  have n0_ := Aside0.mk (Kd.R_elder' (by (with_reducible repeat (first | apply Kd.R_alloc | apply Kd.R_drewN | apply Kd.R_drew)); exact HO_8.out) (Kd.R_base ho1) hb)
                                  have n1_ := Aside0.mk (Kd.R_elder' (by (with_reducible repeat (first | apply Kd.R_alloc | apply Kd.R_drewN | apply Kd.R_drew)); exact HO_11.out) (Kd.R_base ho1) hb)
                                  have n2_ := Aside0.mk (Kd.V_elder' (by (with_reducible repeat (first | apply Kd.V_alloc | apply Kd.V_drewN | apply Kd.V_drew)); exact HO_271002.out) (Kd.R_base ho1) hb)
                                  have n3_ := Aside0.mk (Kd.V_elder' (by (with_reducible repeat (first | apply Kd.V_alloc | apply Kd.V_drewN | apply Kd.V_drew)); exact HO_283002.out) (Kd.R_base ho1) hb)
                                  have n4_ := Aside0.mk (Kd.V_elder' (by (with_reducible repeat (first | apply Kd.V_alloc | apply Kd.V_drewN | apply Kd.V_drew)); exact HO_284002.out) (Kd.R_base ho1) hb)
                                  have n5_ := Aside0.mk (Kd.V_lower (Kd.V_mono (ok' := fun k_ => (P0_2_ k_ ∨ w.heap.size ≤ k_) ∧ some k_ ≠ (v294 : Value).ownBlock ∧ some k_ ≠ (v279 : Value).ownBlock ∧ some k_ ≠ (u11 : Value).ownBlock ∧ k_ ≠ gb270 ∧ k_ ≠ gb282 ∧ k_ ≠ gb283 ∧ k_ ≠ gb297) ho0 (fun k_ hk_ => ⟨Or.elim hk_.1 (fun hs_ => hs_.1.1) (fun hn_ => (.inr (Nat.le_trans (below_size (by repeat (first | (with_reducible first | exact HB.out | apply below_alloc | apply pw_below_drewN | apply below_drew1 | refine below_set ?_ GE270.out | refine below_set ?_ GE282.out | refine below_set ?_ GE283.out | refine below_set ?_ GE297.out) | exact HB.out))) hn_))), hk_.2, Or.elim hk_.1 (fun hs_ => hs_.1.2.1) (fun hn_ => (Kd.fresh' (Kd.R_lt (by (with_reducible repeat (first | apply Kd.R_alloc | apply Kd.R_drewN | apply Kd.R_drew)); exact HO_8.out)) k_ hn_)), Or.elim hk_.1 (fun hs_ => hs_.1.2.2.1) (fun hn_ => (Kd.fresh' (Kd.R_lt (by (with_reducible repeat (first | apply Kd.R_alloc | apply Kd.R_drewN | apply Kd.R_drew)); exact HO_11.out)) k_ hn_)), Or.elim hk_.1 (fun hs_ => hs_.1.2.2.2.1) (fun hn_ => (Kd.freshB (g := gb270) (o := .cells #[.int .u64 a0_0, .int .u64 a0_1, .slice (some ad287) l0_2.length c0_2] 25 (0, 0)) (by (with_reducible repeat (first | refine blk_drewN ?_ _ | refine blk_drew ?_ | refine blk_alloc ?_ _)); exact BK270.out) k_ hn_)), Or.elim hk_.1 (fun hs_ => hs_.1.2.2.2.2.1) (fun hn_ => (Kd.freshB (g := gb282) (o := .cells #[.int .u64 t273, .int .u64 t274, .slice Ao20 t275.length co20] 25 (0, 0)) (by (with_reducible repeat (first | refine blk_drewN ?_ _ | refine blk_drew ?_ | refine blk_alloc ?_ _)); exact BK282.out) k_ hn_)), Or.elim hk_.1 (fun hs_ => hs_.1.2.2.2.2.2) (fun hn_ => (Kd.freshB (g := gb283) (o := .cells #[.int .u64 x284000_2, .int .u64 x284001_2, .slice Ao42 x284002_2.length co42] 25 (0, 0)) (by (with_reducible repeat (first | refine blk_drewN ?_ _ | refine blk_drew ?_ | refine blk_alloc ?_ _)); exact BK283.out) k_ hn_)), Or.elim hk_.1 (fun hs_ => hs_.2) (fun hn_ => (Kd.freshB (g := gb297) (o := .cells #[.int .u64 0, .int .u64 0, .slice none 0 0] 25 (0, 0)) (by (with_reducible repeat (first | refine blk_drewN ?_ _ | refine blk_drew ?_ | refine blk_alloc ?_ _)); exact BK297.out) k_ hn_))⟩)) (below_size (by repeat (first | (with_reducible first | exact HB.out | apply below_alloc | apply pw_below_drewN | apply below_drew1 | refine below_set ?_ GE270.out | refine below_set ?_ GE282.out | refine below_set ?_ GE283.out | refine below_set ?_ GE297.out) | exact HB.out))))
                                  have n6_ := Aside0.mk (Kd.R_lower (Kd.R_new' (Kd.R_new' (Kd.R_newM (M := fun k_ => (w.heap.size ≤ k_)) (Kd.R_mono (ok' := fun k_ => True) ho1 (fun _ hk_ => trivial)) (below_size (by repeat (first | (with_reducible first | exact HB.out | apply below_alloc | apply pw_below_drewN | apply below_drew1 | refine below_set ?_ GE270.out | refine below_set ?_ GE282.out | refine below_set ?_ GE283.out | refine below_set ?_ GE297.out) | exact HB.out))) (fun k_ h_ => h_)) (Kd.R_lt (by (with_reducible repeat (first | apply Kd.R_alloc | apply Kd.R_drewN | apply Kd.R_drew)); exact HO_8.out))) (Kd.R_lt (by (with_reducible repeat (first | apply Kd.R_alloc | apply Kd.R_drewN | apply Kd.R_drew)); exact HO_11.out))) (below_size (by repeat (first | (with_reducible first | exact HB.out | apply below_alloc | apply pw_below_drewN | apply below_drew1 | refine below_set ?_ GE270.out | refine below_set ?_ GE282.out | refine below_set ?_ GE283.out | refine below_set ?_ GE297.out) | exact HB.out))))
                                  have n7_ := Aside0.mk (blk_below (g := gb270) (o := .cells #[.int .u64 a0_0, .int .u64 a0_1, .slice (some ad287) l0_2.length c0_2] 25 (0, 0)) (by (with_reducible repeat (first | refine blk_drewN ?_ _ | refine blk_drew ?_ | refine blk_alloc ?_ _)); exact BK270.out) hb)
                                  have n8_ := Aside0.mk (blk_below (g := gb282) (o := .cells #[.int .u64 t273, .int .u64 t274, .slice Ao20 t275.length co20] 25 (0, 0)) (by (with_reducible repeat (first | refine blk_drewN ?_ _ | refine blk_drew ?_ | refine blk_alloc ?_ _)); exact BK282.out) hb)
                                  have n9_ := Aside0.mk (blk_below (g := gb283) (o := .cells #[.int .u64 x284000_2, .int .u64 x284001_2, .slice Ao42 x284002_2.length co42] 25 (0, 0)) (by (with_reducible repeat (first | refine blk_drewN ?_ _ | refine blk_drew ?_ | refine blk_alloc ?_ _)); exact BK283.out) hb)
                                  have n10_ := Aside0.mk (blk_below (g := gb297) (o := .cells #[.int .u64 0, .int .u64 0, .slice none 0 0] 25 (0, 0)) (by (with_reducible repeat (first | refine blk_drewN ?_ _ | refine blk_drew ?_ | refine blk_alloc ?_ _)); exact BK297.out) hb)
                                  have n11_ := Aside0.mk (below_step (by repeat (first | (with_reducible first | exact HB.out | apply below_alloc | apply pw_below_drewN | apply below_drew1 | refine below_set ?_ GE270.out | refine below_set ?_ GE282.out | refine below_set ?_ GE283.out | refine below_set ?_ GE297.out) | exact HB.out)) hb)
                                  clear HO_8
                                  clear HO_11
                                  clear HO_271002
                                  clear HO_283002
                                  clear HO_284002
                                  clear BK270
                                  clear BK282
                                  clear BK283
                                  clear BK297
                                  clear HB
                                  have HO_8 := n0_
                                  have HO_11 := n1_
                                  have HO_271002 := n2_
                                  have HO_283002 := n3_
                                  have HO_284002 := n4_
                                  have HO292 := n5_
                                  have HO295 := n6_
                                  have BK270 := n7_
                                  have BK282 := n8_
                                  have BK283 := n9_
                                  have BK297 := n10_
                                  have HB := n11_
                                  clear n0_ n1_ n2_ n3_ n4_ n5_ n6_ n7_ n8_ n9_ n10_ n11_
                                  (try clear hb)
                                  (try clear hb2)
                                  (try clear hk)
                                  (try clear hi)
                                  (try clear ho0)
                                  (try clear ho1)
                                  refine hK.out _ _ ⟨(blk_cell BK283.out 0).trans rfl, (blk_cell BK283.out 1).trans rfl, (blk_cell BK283.out 2).trans rfl, (blk_cell BK270.out 0).trans rfl, (blk_cell BK270.out 1).trans rfl, (blk_cell BK270.out 2).trans rfl, HS6_, HS7_⟩ (fun hHeld => ?_)
                                  clear hK K
                                  refine norm_ (a' := ?_) ?_ ?_
                                  rotate_left
                                  · show Act.put _ (some 66) _ = _
                                    simp only [Act.put, List.setIfInBounds_toArray, List.set_cons_zero, List.set_cons_succ, i64_w, i32_w]
                                    rfl
                                  refine pure_ (i := 8) (N := some 58) (v := ?_) (a' := ?_) #[true, true, true, true, true, true, true, true, true, false, false, false, true, false, false, false] rfl rfl (any_of HT_.out (by kernel_rfl)) (fun _ _ _ h => h) (Or.inl ⟨by rfl, ?_⟩) ?_ ?_
                                  rotate_left
                                  · intro w'
                                    go_simp
                                    with_reducible rfl
                                  rotate_left
                                  · simp only [Act.put, List.setIfInBounds_toArray, List.set_cons_zero, List.set_cons_succ, i64_w, i32_w]
                                    rfl
                                  refine pure_ (i := 9) (N := some 67) (v := ?_) (a' := ?_) #[true, true, true, true, true, true, true, true, true, true, false, false, true, false, false, false] rfl rfl (any_of HT_.out (by kernel_rfl)) (fun _ _ _ h => h) (Or.inl ⟨by rfl, ?_⟩) ?_ ?_
                                  rotate_left
                                  · intro w'
                                    go_simp
                                    with_reducible rfl
                                  rotate_left
                                  · simp only [Act.put, List.setIfInBounds_toArray, List.set_cons_zero, List.set_cons_succ, i64_w, i32_w]
                                    rfl
                                  refine pure_ (i := 10) (N := some 68) (v := ?_) (a' := ?_) #[true, true, true, true, true, true, true, true, true, true, true, false, true, false, false, false] rfl rfl (any_of HT_.out (by kernel_rfl)) (fun _ _ _ h => h) (Or.inl ⟨by rfl, ?_⟩) ?_ ?_
                                  rotate_left
                                  · intro w'
                                    go_simp
                                    with_reducible rfl
                                  rotate_left
                                  · simp only [Act.put, List.setIfInBounds_toArray, List.set_cons_zero, List.set_cons_succ, i64_w, i32_w]
                                    rfl
                                  refine pure_ (i := 11) (N := some 69) (v := ?_) (a' := ?_) #[true, true, true, true, true, true, true, true, true, true, true, true, true, false, false, false] rfl rfl (any_of HT_.out (by kernel_rfl)) (fun _ _ _ h => h) (Or.inl ⟨by rfl, ?_⟩) ?_ ?_
                                  rotate_left
                                  · intro w'
                                    go_simp
                                    with_reducible rfl
                                  rotate_left
                                  · simp only [Act.put, List.setIfInBounds_toArray, List.set_cons_zero, List.set_cons_succ, i64_w, i32_w]
                                    rfl
                                  exact norm_ (by simp only [putAll, Act.put, List.setIfInBounds_toArray, List.set_cons_zero, List.set_cons_succ]) (hCont (v291, v294, gb297) _ ⟨hHeld, (by (with_reducible repeat (first | apply Kd.V_alloc | apply Kd.V_drewN | apply Kd.V_drew)); exact Kd.V_mono HO292.out (fun _ hk => ⟨hk.1, ⟨hk.2.1, ⟨hk.2.2.2.1, ⟨hk.2.2.1, ⟨hk.2.2.2.2.1, ⟨hk.2.2.2.2.2.1, ⟨hk.2.2.2.2.2.2.1, hk.2.2.2.2.2.2.2⟩⟩⟩⟩⟩⟩⟩)), (by (with_reducible repeat (first | apply Kd.R_alloc | apply Kd.R_drewN | apply Kd.R_drew)); exact Kd.R_mono HO295.out (fun _ hk => ⟨hk.1.1.1, ⟨hk.2, hk.1.2⟩⟩)), (by (with_reducible repeat (first | apply Kd.R_alloc | apply Kd.R_drewN | apply Kd.R_drew)); exact Kd.R_mono HO_11.out (fun _ hk => ⟨hk.1.1, ⟨hk.2, hk.1.2⟩⟩)), (by (with_reducible repeat (first | apply Kd.V_alloc | apply Kd.V_drewN | apply Kd.V_drew)); exact Kd.V_mono HO_271002.out (fun _ hk => ⟨hk.1.1.1, ⟨hk.2, ⟨hk.1.1.2.2.1, ⟨hk.1.1.2.1, ⟨hk.1.1.2.2.2.1, ⟨hk.1.1.2.2.2.2.1, ⟨hk.1.1.2.2.2.2.2, hk.1.2⟩⟩⟩⟩⟩⟩⟩)), (by (with_reducible repeat (first | apply Kd.V_alloc | apply Kd.V_drewN | apply Kd.V_drew)); exact Kd.V_mono HO_283002.out (fun _ hk => ⟨hk.1.1.1, ⟨hk.2, ⟨hk.1.1.2.2.1, ⟨hk.1.1.2.1, ⟨hk.1.1.2.2.2.1, ⟨hk.1.1.2.2.2.2.1, ⟨hk.1.1.2.2.2.2.2, hk.1.2⟩⟩⟩⟩⟩⟩⟩)), (by (with_reducible repeat (first | apply Kd.V_alloc | apply Kd.V_drewN | apply Kd.V_drew)); exact Kd.V_mono HO_284002.out (fun _ hk => ⟨hk.1.1.1, ⟨hk.2, ⟨hk.1.1.2.2.1, ⟨hk.1.1.2.1, ⟨hk.1.1.2.2.2.1, ⟨hk.1.1.2.2.2.2.1, ⟨hk.1.1.2.2.2.2.2, hk.1.2⟩⟩⟩⟩⟩⟩⟩)), (by (with_reducible repeat (first | apply Kd.R_alloc | apply Kd.R_drewN | apply Kd.R_drew)); exact Kd.R_mono HO_8.out (fun _ hk => ⟨hk.1.1, ⟨hk.2, hk.1.2⟩⟩)), (by (with_reducible repeat (first | refine blk_drewN ?_ _ | refine blk_drew ?_ | refine blk_alloc ?_ _)); exact BK270.out), (by (with_reducible repeat (first | refine blk_drewN ?_ _ | refine blk_drew ?_ | refine blk_alloc ?_ _)); exact BK282.out), (by (with_reducible repeat (first | refine blk_drewN ?_ _ | refine blk_drew ?_ | refine blk_alloc ?_ _)); exact BK283.out), (by (with_reducible repeat (first | refine blk_drewN ?_ _ | refine blk_drew ?_ | refine blk_alloc ?_ _)); exact BK297.out), GW297.out, GE297.out, NB270_297.out, NB297_270.out, NB282_297.out, NB297_282.out, NB283_297.out, NB297_283.out, (by repeat (first | (with_reducible first | exact HB.out | apply below_alloc | apply pw_below_drewN | apply below_drew1 | refine below_set ?_ GE270.out | refine below_set ?_ GE282.out | refine below_set ?_ GE283.out | refine below_set ?_ GE297.out) | exact HB.out))⟩)
                              rintro ⟨v291, v294, gb297⟩ w46 ⟨hS_, h0_, h1_, h2_, h3_, h4_, h5_, h6_, h7_, h8_, h9_, h10_, h11_, h12_, h13_, h14_, h15_, h16_, h17_, h18_, h19_⟩
                              have n0_ : Aside0 (Kd.V k47 47 w46 w.heap.size (fun k_ => (P0_2_ k_ ∨ w.heap.size ≤ k_) ∧ some k_ ≠ (v294 : Value).ownBlock ∧ some k_ ≠ (u11 : Value).ownBlock ∧ some k_ ≠ (v279 : Value).ownBlock ∧ k_ ≠ gb270 ∧ k_ ≠ gb282 ∧ k_ ≠ gb283 ∧ k_ ≠ gb297) v291 t290) := ⟨h0_⟩
                              have n1_ : Aside0 (Kd.R (Kd.int .u64) 22 w46 w.heap.size (fun k_ => (w.heap.size ≤ k_) ∧ some k_ ≠ (u11 : Value).ownBlock ∧ some k_ ≠ (v279 : Value).ownBlock) v294 t293) := ⟨h1_⟩
                              have n2_ : Aside0 (Kd.R (Kd.int .u64) 22 w46 w.heap.size (fun k_ => (w.heap.size ≤ k_) ∧ some k_ ≠ (v294 : Value).ownBlock ∧ some k_ ≠ (v279 : Value).ownBlock) u11 x11_2) := ⟨h2_⟩
                              have n3_ : Aside0 (Kd.V k47 47 w46 w.heap.size (fun k_ => (P0_2_ k_ ∨ w.heap.size ≤ k_) ∧ some k_ ≠ (v294 : Value).ownBlock ∧ some k_ ≠ (u11 : Value).ownBlock ∧ some k_ ≠ (v279 : Value).ownBlock ∧ k_ ≠ gb270 ∧ k_ ≠ gb282 ∧ k_ ≠ gb283 ∧ k_ ≠ gb297) (.slice (some ad287) l0_2.length c0_2) l0_2) := ⟨h3_⟩
                              have n4_ : Aside0 (Kd.V k47 47 w46 w.heap.size (fun k_ => (P0_2_ k_ ∨ w.heap.size ≤ k_) ∧ some k_ ≠ (v294 : Value).ownBlock ∧ some k_ ≠ (u11 : Value).ownBlock ∧ some k_ ≠ (v279 : Value).ownBlock ∧ k_ ≠ gb270 ∧ k_ ≠ gb282 ∧ k_ ≠ gb283 ∧ k_ ≠ gb297) (.slice Ao20 t275.length co20) t275) := ⟨h4_⟩
                              have n5_ : Aside0 (Kd.V k47 47 w46 w.heap.size (fun k_ => (P0_2_ k_ ∨ w.heap.size ≤ k_) ∧ some k_ ≠ (v294 : Value).ownBlock ∧ some k_ ≠ (u11 : Value).ownBlock ∧ some k_ ≠ (v279 : Value).ownBlock ∧ k_ ≠ gb270 ∧ k_ ≠ gb282 ∧ k_ ≠ gb283 ∧ k_ ≠ gb297) (.slice Ao42 x284002_2.length co42) x284002_2) := ⟨h5_⟩
                              have n6_ : Aside0 (Kd.R (Kd.int .u64) 22 w46 w.heap.size (fun k_ => (w.heap.size ≤ k_) ∧ some k_ ≠ (v294 : Value).ownBlock ∧ some k_ ≠ (u11 : Value).ownBlock) v279 t278) := ⟨h6_⟩
                              have n7_ : Aside0 (w46.heap[gb270]? = some (.cells #[.int .u64 a0_0, .int .u64 a0_1, .slice (some ad287) l0_2.length c0_2] 25 (0, 0))) := ⟨h7_⟩
                              have n8_ : Aside0 (w46.heap[gb282]? = some (.cells #[.int .u64 t273, .int .u64 t274, .slice Ao20 t275.length co20] 25 (0, 0))) := ⟨h8_⟩
                              have n9_ : Aside0 (w46.heap[gb283]? = some (.cells #[.int .u64 x284000_2, .int .u64 x284001_2, .slice Ao42 x284002_2.length co42] 25 (0, 0))) := ⟨h9_⟩
                              have n10_ : Aside0 (w46.heap[gb297]? = some (.cells #[.int .u64 0, .int .u64 0, .slice none 0 0] 25 (0, 0))) := ⟨h10_⟩
                              have n11_ : Aside0 (w.heap.size ≤ gb297) := ⟨h11_⟩
                              have n12_ : Aside0 (w.heap.size ≤ gb297) := ⟨h12_⟩
                              have n13_ : Aside0 (gb270 ≠ gb297) := ⟨h13_⟩
                              have n14_ : Aside0 (gb297 ≠ gb270) := ⟨h14_⟩
                              have n15_ : Aside0 (gb282 ≠ gb297) := ⟨h15_⟩
                              have n16_ : Aside0 (gb297 ≠ gb282) := ⟨h16_⟩
                              have n17_ : Aside0 (gb283 ≠ gb297) := ⟨h17_⟩
                              have n18_ : Aside0 (gb297 ≠ gb283) := ⟨h18_⟩
                              have n19_ : Aside0 (Below w.heap.size w w46) := ⟨h19_⟩
                              clear HO_8
                              clear HO_11
                              clear HO_271002
                              clear HO_283002
                              clear HO_284002
                              clear BK270
                              clear BK282
                              clear BK283
                              clear HB
                              clear h0_ h1_ h2_ h3_ h4_ h5_ h6_ h7_ h8_ h9_ h10_ h11_ h12_ h13_ h14_ h15_ h16_ h17_ h18_ h19_
                              have HO292 := n0_
                              have HO295 := n1_
                              have HO_11 := n2_
                              have HO_271002 := n3_
                              have HO_283002 := n4_
                              have HO_284002 := n5_
                              have HO_8 := n6_
                              have BK270 := n7_
                              have BK282 := n8_
                              have BK283 := n9_
                              have BK297 := n10_
                              have GW297 := n11_
                              have GE297 := n12_
                              have NB270_297 := n13_
                              have NB297_270 := n14_
                              have NB282_297 := n15_
                              have NB297_282 := n16_
                              have NB283_297 := n17_
                              have NB297_283 := n18_
                              have HB := n19_
                              clear n0_ n1_ n2_ n3_ n4_ n5_ n6_ n7_ n8_ n9_ n10_ n11_ n12_ n13_ n14_ n15_ n16_ n17_ n18_ n19_
                              have hHeld : w46.cell? ⟨gb283, 0, none⟩ = some (.int .u64 x284000_2) ∧ w46.cell? ⟨gb283, 1, none⟩ = some (.int .u64 x284001_2) ∧ w46.cell? ⟨gb283, 2, none⟩ = some (.slice Ao42 x284002_2.length co42) ∧ w46.cell? ⟨gb270, 0, none⟩ = some (.int .u64 a0_0) ∧ w46.cell? ⟨gb270, 1, none⟩ = some (.int .u64 a0_1) ∧ w46.cell? ⟨gb270, 2, none⟩ = some (.slice (some ad287) l0_2.length c0_2) ∧ w46.cell? (ad287.add ((x12_2).toNat * 2)) = some (.int .u64 ((rd_T47 l0_2 x12_2).f0)) ∧ w46.cell? ⟨(ad287.add ((x12_2).toNat * 2)).block, (ad287.add ((x12_2).toNat * 2)).off + 1, none⟩ = some (.int .u64 ((rd_T47 l0_2 x12_2).f1)) := hS_
                              obtain ⟨Ao49, co49, eo49⟩ := Kd.V_slice HO292.out
                              (first | subst eo49 | (injection eo49 with f1_ f2_ f3_; have f4_ := f1_.symm; have f5_ := f3_.symm; clear f1_ f2_ f3_; subst f4_; subst f5_))
                              refine norm_ (a' := ?_) ?_ ?_
                              rotate_left
                              · simp only [putAll, Act.put, List.setIfInBounds_toArray, List.set_cons_zero, List.set_cons_succ]
                                rfl
                              refine one_ (i := 13) (N := none) #[true, true, true, true, true, true, true, true, true, true, true, true, true, true, false, false] rfl rfl (one_of HT_.out (by kernel_rfl)) (by decide) (fun K hK => ?_)
                              have hs47 : w46.cell? ⟨gb297, 0, none⟩ = some (.int .u64 0) := (blk_cell BK297.out 0).trans rfl
                              have hfs47 := blk_frozen BK297.out 0
                              have hns47_0 := NB270_297.out
                              have hns47_1 := NB282_297.out
                              have hns47_2 := NB283_297.out
                              have hms47_0 := NB297_270.out
                              have hms47_1 := NB297_282.out
                              have hms47_2 := NB297_283.out
                              have hs48 : w46.cell? ⟨gb297, 1, none⟩ = some (.int .u64 0) := (blk_cell BK297.out 1).trans rfl
                              have hfs48 := blk_frozen BK297.out 1
                              have hns48_0 := NB270_297.out
                              have hns48_1 := NB282_297.out
                              have hns48_2 := NB283_297.out
                              have hms48_0 := NB297_270.out
                              have hms48_1 := NB297_282.out
                              have hms48_2 := NB297_283.out
                              have hs50 : w46.cell? ⟨gb297, 2, none⟩ = some (.slice none 0 0) := (blk_cell BK297.out 2).trans rfl
                              have hfs50 := blk_frozen BK297.out 2
                              have hns50_0 := NB270_297.out
                              have hns50_1 := NB282_297.out
                              have hns50_2 := NB283_297.out
                              have hms50_0 := NB297_270.out
                              have hms50_1 := NB297_282.out
                              have hms50_2 := NB297_283.out
                              refine skip_ (w1 := ?_) (by rfl) rfl ?_ ?_
                              rotate_left
                              · go_simp
                                rfl
                              refine hK.out _ _ ⟨((cell_far (p := ⟨gb297, _, none⟩) NB283_297.out _).trans (((cell_far (p := ⟨gb297, _, none⟩) NB283_297.out _).trans (((cell_far (p := ⟨gb297, _, none⟩) NB283_297.out _).trans (hHeld.1)))))), ((cell_far (p := ⟨gb297, _, none⟩) NB283_297.out _).trans (((cell_far (p := ⟨gb297, _, none⟩) NB283_297.out _).trans (((cell_far (p := ⟨gb297, _, none⟩) NB283_297.out _).trans (hHeld.2.1)))))), ((cell_far (p := ⟨gb297, _, none⟩) NB283_297.out _).trans (((cell_far (p := ⟨gb297, _, none⟩) NB283_297.out _).trans (((cell_far (p := ⟨gb297, _, none⟩) NB283_297.out _).trans (hHeld.2.2.1)))))), ((cell_far (p := ⟨gb297, _, none⟩) NB270_297.out _).trans (((cell_far (p := ⟨gb297, _, none⟩) NB270_297.out _).trans (((cell_far (p := ⟨gb297, _, none⟩) NB270_297.out _).trans (hHeld.2.2.2.1)))))), ((cell_far (p := ⟨gb297, _, none⟩) NB270_297.out _).trans (((cell_far (p := ⟨gb297, _, none⟩) NB270_297.out _).trans (((cell_far (p := ⟨gb297, _, none⟩) NB270_297.out _).trans (hHeld.2.2.2.2.1)))))), ((cell_far (p := ⟨gb297, _, none⟩) NB270_297.out _).trans (((cell_far (p := ⟨gb297, _, none⟩) NB270_297.out _).trans (((cell_far (p := ⟨gb297, _, none⟩) NB270_297.out _).trans (hHeld.2.2.2.2.2.1)))))), ((cell_far (p := ⟨gb297, _, none⟩) (by first | exact (V_away1 HO_271002.out (by have := of_decide_eq_true c37b0; have := of_decide_eq_true c38b0; omega) (by decide) (fun _ hk => hk.2.2.2.2.2.2.2)) | (rw [add_block]; exact (V_away1 HO_271002.out (by have := of_decide_eq_true c37b0; have := of_decide_eq_true c38b0; omega) (by decide) (fun _ hk => hk.2.2.2.2.2.2.2))) | (show (Addr.add _ _).block ≠ _; rw [add_block]; exact (V_away1 HO_271002.out (by have := of_decide_eq_true c37b0; have := of_decide_eq_true c38b0; omega) (by decide) (fun _ hk => hk.2.2.2.2.2.2.2))) | (dsimp only; exact (V_away1 HO_271002.out (by have := of_decide_eq_true c37b0; have := of_decide_eq_true c38b0; omega) (by decide) (fun _ hk => hk.2.2.2.2.2.2.2)))) _).trans (((cell_far (p := ⟨gb297, _, none⟩) (by first | exact (V_away1 HO_271002.out (by have := of_decide_eq_true c37b0; have := of_decide_eq_true c38b0; omega) (by decide) (fun _ hk => hk.2.2.2.2.2.2.2)) | (rw [add_block]; exact (V_away1 HO_271002.out (by have := of_decide_eq_true c37b0; have := of_decide_eq_true c38b0; omega) (by decide) (fun _ hk => hk.2.2.2.2.2.2.2))) | (show (Addr.add _ _).block ≠ _; rw [add_block]; exact (V_away1 HO_271002.out (by have := of_decide_eq_true c37b0; have := of_decide_eq_true c38b0; omega) (by decide) (fun _ hk => hk.2.2.2.2.2.2.2))) | (dsimp only; exact (V_away1 HO_271002.out (by have := of_decide_eq_true c37b0; have := of_decide_eq_true c38b0; omega) (by decide) (fun _ hk => hk.2.2.2.2.2.2.2)))) _).trans (((cell_far (p := ⟨gb297, _, none⟩) (by first | exact (V_away1 HO_271002.out (by have := of_decide_eq_true c37b0; have := of_decide_eq_true c38b0; omega) (by decide) (fun _ hk => hk.2.2.2.2.2.2.2)) | (rw [add_block]; exact (V_away1 HO_271002.out (by have := of_decide_eq_true c37b0; have := of_decide_eq_true c38b0; omega) (by decide) (fun _ hk => hk.2.2.2.2.2.2.2))) | (show (Addr.add _ _).block ≠ _; rw [add_block]; exact (V_away1 HO_271002.out (by have := of_decide_eq_true c37b0; have := of_decide_eq_true c38b0; omega) (by decide) (fun _ hk => hk.2.2.2.2.2.2.2))) | (dsimp only; exact (V_away1 HO_271002.out (by have := of_decide_eq_true c37b0; have := of_decide_eq_true c38b0; omega) (by decide) (fun _ hk => hk.2.2.2.2.2.2.2)))) _).trans (hHeld.2.2.2.2.2.2.1)))))), ((cell_far (p := ⟨gb297, _, none⟩) (by first | exact (V_away1 HO_271002.out (by have := of_decide_eq_true c37b0; have := of_decide_eq_true c38b0; omega) (by decide) (fun _ hk => hk.2.2.2.2.2.2.2)) | (rw [add_block]; exact (V_away1 HO_271002.out (by have := of_decide_eq_true c37b0; have := of_decide_eq_true c38b0; omega) (by decide) (fun _ hk => hk.2.2.2.2.2.2.2))) | (show (Addr.add _ _).block ≠ _; rw [add_block]; exact (V_away1 HO_271002.out (by have := of_decide_eq_true c37b0; have := of_decide_eq_true c38b0; omega) (by decide) (fun _ hk => hk.2.2.2.2.2.2.2))) | (dsimp only; exact (V_away1 HO_271002.out (by have := of_decide_eq_true c37b0; have := of_decide_eq_true c38b0; omega) (by decide) (fun _ hk => hk.2.2.2.2.2.2.2)))) _).trans (((cell_far (p := ⟨gb297, _, none⟩) (by first | exact (V_away1 HO_271002.out (by have := of_decide_eq_true c37b0; have := of_decide_eq_true c38b0; omega) (by decide) (fun _ hk => hk.2.2.2.2.2.2.2)) | (rw [add_block]; exact (V_away1 HO_271002.out (by have := of_decide_eq_true c37b0; have := of_decide_eq_true c38b0; omega) (by decide) (fun _ hk => hk.2.2.2.2.2.2.2))) | (show (Addr.add _ _).block ≠ _; rw [add_block]; exact (V_away1 HO_271002.out (by have := of_decide_eq_true c37b0; have := of_decide_eq_true c38b0; omega) (by decide) (fun _ hk => hk.2.2.2.2.2.2.2))) | (dsimp only; exact (V_away1 HO_271002.out (by have := of_decide_eq_true c37b0; have := of_decide_eq_true c38b0; omega) (by decide) (fun _ hk => hk.2.2.2.2.2.2.2)))) _).trans (((cell_far (p := ⟨gb297, _, none⟩) (by first | exact (V_away1 HO_271002.out (by have := of_decide_eq_true c37b0; have := of_decide_eq_true c38b0; omega) (by decide) (fun _ hk => hk.2.2.2.2.2.2.2)) | (rw [add_block]; exact (V_away1 HO_271002.out (by have := of_decide_eq_true c37b0; have := of_decide_eq_true c38b0; omega) (by decide) (fun _ hk => hk.2.2.2.2.2.2.2))) | (show (Addr.add _ _).block ≠ _; rw [add_block]; exact (V_away1 HO_271002.out (by have := of_decide_eq_true c37b0; have := of_decide_eq_true c38b0; omega) (by decide) (fun _ hk => hk.2.2.2.2.2.2.2))) | (dsimp only; exact (V_away1 HO_271002.out (by have := of_decide_eq_true c37b0; have := of_decide_eq_true c38b0; omega) (by decide) (fun _ hk => hk.2.2.2.2.2.2.2)))) _).trans (hHeld.2.2.2.2.2.2.2))))))⟩ (fun hHeld => ?_)
                              clear hK K
                              refine pure_ (i := 14) (N := some 14) (v := ?_) (a' := ?_) #[true, true, true, true, true, true, true, true, true, true, true, true, true, true, true, false] rfl rfl (any_of HT_.out (by kernel_rfl)) (fun _ _ _ h => h) (Or.inl ⟨by rfl, ?_⟩) ?_ ?_
                              rotate_left
                              · intro w'
                                go_simp
                                with_reducible rfl
                              rotate_left
                              · simp only [Act.put, List.setIfInBounds_toArray, List.set_cons_zero, List.set_cons_succ, i64_w, i32_w]
                                rfl
                              refine pure_ (i := 15) (N := some 15) (v := ?_) (a' := ?_) #[true, true, true, true, true, true, true, true, true, true, true, true, true, true, true, true] rfl rfl (any_of HT_.out (by kernel_rfl)) (fun _ _ _ h => h) (Or.inl ⟨by rfl, ?_⟩) ?_ ?_
                              rotate_left
                              · intro w'
                                go_simp
                                with_reducible rfl
                              rotate_left
                              · simp only [Act.put, List.setIfInBounds_toArray, List.set_cons_zero, List.set_cons_succ, i64_w, i32_w]
                                rfl
                              refine done_ (done_of HT_.out (by kernel_rfl)) ?_
                              have hnb51 := NB297_270.out
                              have hnc51 := NB270_297.out
                              have hnb52 := NB297_282.out
                              have hnc52 := NB282_297.out
                              have hnb53 := NB297_283.out
                              have hnc53 := NB283_297.out
                              have hcz54_0 : w46.cell? ⟨gb297, 0, none⟩ = some (.int .u64 0) := (blk_cell BK297.out 0).trans rfl
                              have hcz54_1 : w46.cell? ⟨gb297, 1, none⟩ = some (.int .u64 0) := (blk_cell BK297.out 1).trans rfl
                              have hcz54_2 : w46.cell? ⟨gb297, 2, none⟩ = some (.slice none 0 0) := (blk_cell BK297.out 2).trans rfl
                              have hfz54_0 := blk_frozen BK297.out 0
                              have hfz54_1 := blk_frozen BK297.out 1
                              have hfz54_2 := blk_frozen BK297.out 2
                              have hnb55 := NB283_270.out
                              have hnc55 := NB270_283.out
                              have hnb56 := NB283_282.out
                              have hnc56 := NB282_283.out
                              have hcz57_0 : w46.cell? ⟨gb283, 0, none⟩ = some (.int .u64 x284000_2) := (blk_cell BK283.out 0).trans rfl
                              have hcz57_1 : w46.cell? ⟨gb283, 1, none⟩ = some (.int .u64 x284001_2) := (blk_cell BK283.out 1).trans rfl
                              have hcz57_2 : w46.cell? ⟨gb283, 2, none⟩ = some (.slice Ao42 x284002_2.length co42) := (blk_cell BK283.out 2).trans rfl
                              have hfz57_0 := blk_frozen BK283.out 0
                              have hfz57_1 := blk_frozen BK283.out 1
                              have hfz57_2 := blk_frozen BK283.out 2
                              obtain ⟨Ao59, co59, eo59⟩ := Kd.R_slice HO295.out
                              subst eo59
                              try go_wp2_with (first | ((with_reducible refine gate_builtin (b := .append) (xs := #[.tmp 73, .tmp 74]) rfl ?_); (try (refine gate_guard (by rfl) ?_; dsimp only)); at_builtin; refine Kd.R_append_rows (Kd.int .u64) (w0 := w) w.heap.size rfl (.tmp 73) (.tmp 74) 33 22 (.int .u64 0) 8 rfl Try.underlying33 info22 rfl (by decide) (by omega) u11 x11_2 t293 _ _ _ (fun k_ => (w.heap.size ≤ k_) ∧ some k_ ≠ (v279 : Value).ownBlock ∧ some k_ ≠ (.slice Ao59 t293.length co59 : Value).ownBlock) (fun _ => False) rfl rfl ?aO ?aR (fun _ _ h => h) (fun _ h => h.elim) ?aF ?aB ?aS ?aL ?_; (case aR => refine (Kd.R_reads' (e := 22) (base := w.heap.size) (ok := fun k_ => ((w.heap.size ≤ k_) ∧ (some k_ ≠ (u11 : Value).ownBlock ∧ some k_ ≠ (v279 : Value).ownBlock))) (n := t293.length) (c := co59) ?_).2.2; exact (by (with_reducible repeat (first | apply Kd.R_alloc | apply Kd.R_drewN | apply Kd.R_drew)); exact (Kd.R_mono (Kd.R_mono (Kd.R_far (p := ⟨gb283, 2, none⟩) (Kd.R_far (p := ⟨gb283, 1, none⟩) (Kd.R_far (p := ⟨gb283, 0, none⟩) (Kd.R_far (p := ⟨gb297, 2, none⟩) (Kd.R_far (p := ⟨gb297, 1, none⟩) (Kd.R_far (p := ⟨gb297, 0, none⟩) (Kd.R_types (Kd.R_types HO295.out BK297.out (by decide)) BK283.out (by decide)) (fun _ hk => hk.1.2) (.int .u64 t288)) (fun _ hk => hk.1.2) (.int .u64 t289)) (fun _ hk => hk.1.2) (.slice Ao49 t290.length co49)) (fun _ hk => hk.2) (.int .u64 t288)) (fun _ hk => hk.2) (.int .u64 t289)) (fun _ hk => hk.2) (.slice Ao49 t290.length co49)) (fun _ h_ => h_.1)) (fun _ h_ => h_.1)))); (case aB => exact (by repeat (first | (with_reducible first | exact HB.out | apply below_alloc | apply pw_below_drewN | apply below_drew1 | refine below_set ?_ GE270.out | refine below_set ?_ GE282.out | refine below_set ?_ GE283.out | refine below_set ?_ GE297.out) | exact HB.out))); (case aF => exact (fun k_ hk => ⟨(Nat.le_trans (below_size (by repeat (first | (with_reducible first | exact HB.out | apply below_alloc | apply pw_below_drewN | apply below_drew1 | refine below_set ?_ GE270.out | refine below_set ?_ GE282.out | refine below_set ?_ GE283.out | refine below_set ?_ GE297.out) | exact HB.out))) hk), Kd.fresh' (Kd.R_lt (by (with_reducible repeat (first | apply Kd.R_alloc | apply Kd.R_drewN | apply Kd.R_drew)); exact (Kd.R_mono (Kd.R_mono (Kd.R_far (p := ⟨gb283, 2, none⟩) (Kd.R_far (p := ⟨gb283, 1, none⟩) (Kd.R_far (p := ⟨gb283, 0, none⟩) (Kd.R_far (p := ⟨gb297, 2, none⟩) (Kd.R_far (p := ⟨gb297, 1, none⟩) (Kd.R_far (p := ⟨gb297, 0, none⟩) (Kd.R_types (Kd.R_types HO_8.out BK297.out (by decide)) BK283.out (by decide)) (fun _ hk => hk.1.2) (.int .u64 t288)) (fun _ hk => hk.1.2) (.int .u64 t289)) (fun _ hk => hk.1.2) (.slice Ao49 t290.length co49)) (fun _ hk => hk.2) (.int .u64 t288)) (fun _ hk => hk.2) (.int .u64 t289)) (fun _ hk => hk.2) (.slice Ao49 t290.length co49)) (fun _ h_ => h_.1)) (fun _ h_ => h_.1)))) k_ hk, Kd.fresh' (Kd.R_lt (by (with_reducible repeat (first | apply Kd.R_alloc | apply Kd.R_drewN | apply Kd.R_drew)); exact (Kd.R_mono (Kd.R_mono (Kd.R_far (p := ⟨gb283, 2, none⟩) (Kd.R_far (p := ⟨gb283, 1, none⟩) (Kd.R_far (p := ⟨gb283, 0, none⟩) (Kd.R_far (p := ⟨gb297, 2, none⟩) (Kd.R_far (p := ⟨gb297, 1, none⟩) (Kd.R_far (p := ⟨gb297, 0, none⟩) (Kd.R_types (Kd.R_types HO295.out BK297.out (by decide)) BK283.out (by decide)) (fun _ hk => hk.1.2) (.int .u64 t288)) (fun _ hk => hk.1.2) (.int .u64 t289)) (fun _ hk => hk.1.2) (.slice Ao49 t290.length co49)) (fun _ hk => hk.2) (.int .u64 t288)) (fun _ hk => hk.2) (.int .u64 t289)) (fun _ hk => hk.2) (.slice Ao49 t290.length co49)) (fun _ h_ => h_.1)) (fun _ h_ => h_.1)))) k_ hk⟩)); (case aO => exact (by (with_reducible repeat (first | apply Kd.R_alloc | apply Kd.R_drewN | apply Kd.R_drew)); exact Kd.R_mono (Kd.R_far (p := ⟨gb283, 2, none⟩) (Kd.R_far (p := ⟨gb283, 1, none⟩) (Kd.R_far (p := ⟨gb283, 0, none⟩) (Kd.R_far (p := ⟨gb297, 2, none⟩) (Kd.R_far (p := ⟨gb297, 1, none⟩) (Kd.R_far (p := ⟨gb297, 0, none⟩) (Kd.R_types (Kd.R_types HO_11.out BK297.out (by decide)) BK283.out (by decide)) (fun _ hk => hk.1.2) (.int .u64 t288)) (fun _ hk => hk.1.2) (.int .u64 t289)) (fun _ hk => hk.1.2) (.slice Ao49 t290.length co49)) (fun _ hk => hk.2) (.int .u64 t288)) (fun _ hk => hk.2) (.int .u64 t289)) (fun _ hk => hk.2) (.slice Ao49 t290.length co49)) (fun _ hk => ⟨hk.1.1.1, ⟨hk.1.1.2.2, hk.1.1.2.1⟩⟩))); (case aS => exact (below_size (by repeat (first | (with_reducible first | exact HB.out | apply below_alloc | apply pw_below_drewN | apply below_drew1 | refine below_set ?_ GE270.out | refine below_set ?_ GE282.out | refine below_set ?_ GE283.out | refine below_set ?_ GE297.out) | exact HB.out)))); (case aL => have := LMc41.out; omega); intro v299 w58 ho hb hg hat; rw [← Ny298.out] at ho; have n0_ := Aside0.mk (Kd.R_after (ok := (fun k_ => (w.heap.size ≤ k_) ∧ some k_ ≠ (.slice Ao59 t293.length co59 : Value).ownBlock)) (by (with_reducible repeat (first | apply Kd.R_alloc | apply Kd.R_drewN | apply Kd.R_drew)); exact Kd.R_mono (Kd.R_far (p := ⟨gb283, 2, none⟩) (Kd.R_far (p := ⟨gb283, 1, none⟩) (Kd.R_far (p := ⟨gb283, 0, none⟩) (Kd.R_far (p := ⟨gb297, 2, none⟩) (Kd.R_far (p := ⟨gb297, 1, none⟩) (Kd.R_far (p := ⟨gb297, 0, none⟩) (Kd.R_types (Kd.R_types HO_8.out BK297.out (by decide)) BK283.out (by decide)) (fun _ hk => hk.1.2) (.int .u64 t288)) (fun _ hk => hk.1.2) (.int .u64 t289)) (fun _ hk => hk.1.2) (.slice Ao49 t290.length co49)) (fun _ hk => hk.2) (.int .u64 t288)) (fun _ hk => hk.2) (.int .u64 t289)) (fun _ hk => hk.2) (.slice Ao49 t290.length co49)) (fun _ hk => ⟨⟨hk.1.1.1, hk.1.1.2.1⟩, hk.1.1.2.2⟩)) hg hat); have n1_ := Aside0.mk (Kd.V_afterv (ok := (fun k_ => (P0_2_ k_ ∨ w.heap.size ≤ k_) ∧ some k_ ≠ (v279 : Value).ownBlock ∧ some k_ ≠ (.slice Ao59 t293.length co59 : Value).ownBlock ∧ k_ ≠ gb270 ∧ k_ ≠ gb282 ∧ k_ ≠ gb283 ∧ k_ ≠ gb297)) (by (with_reducible repeat (first | apply Kd.V_alloc | apply Kd.V_drewN | apply Kd.V_drew)); exact Kd.V_mono (Kd.V_far (p := ⟨gb283, 2, none⟩) (Kd.V_far (p := ⟨gb283, 1, none⟩) (Kd.V_far (p := ⟨gb283, 0, none⟩) (Kd.V_far (p := ⟨gb297, 2, none⟩) (Kd.V_far (p := ⟨gb297, 1, none⟩) (Kd.V_far (p := ⟨gb297, 0, none⟩) (Kd.V_mono (Kd.V_mono HO_271002.out (fun k_ hk => (⟨hk, hk.2.2.2.2.2.2.2⟩ : _ ∧ k_ ≠ gb297))) (fun k_ hk => (⟨hk, hk.1.2.2.2.2.2.2.1⟩ : _ ∧ k_ ≠ gb283))) (fun _ hk => hk.1.2) (.int .u64 t288)) (fun _ hk => hk.1.2) (.int .u64 t289)) (fun _ hk => hk.1.2) (.slice Ao49 t290.length co49)) (fun _ hk => hk.2) (.int .u64 t288)) (fun _ hk => hk.2) (.int .u64 t289)) (fun _ hk => hk.2) (.slice Ao49 t290.length co49)) (fun _ hk => ⟨⟨hk.1.1.1, ⟨hk.1.1.2.2.2.1, ⟨hk.1.1.2.1, ⟨hk.1.1.2.2.2.2.1, ⟨hk.1.1.2.2.2.2.2.1, ⟨hk.1.1.2.2.2.2.2.2.1, hk.1.1.2.2.2.2.2.2.2⟩⟩⟩⟩⟩⟩, hk.1.1.2.2.1⟩)) hg hat); have n2_ := Aside0.mk (Kd.V_afterv (ok := (fun k_ => (P0_2_ k_ ∨ w.heap.size ≤ k_) ∧ some k_ ≠ (v279 : Value).ownBlock ∧ some k_ ≠ (.slice Ao59 t293.length co59 : Value).ownBlock ∧ k_ ≠ gb270 ∧ k_ ≠ gb282 ∧ k_ ≠ gb283 ∧ k_ ≠ gb297)) (by (with_reducible repeat (first | apply Kd.V_alloc | apply Kd.V_drewN | apply Kd.V_drew)); exact Kd.V_mono (Kd.V_far (p := ⟨gb283, 2, none⟩) (Kd.V_far (p := ⟨gb283, 1, none⟩) (Kd.V_far (p := ⟨gb283, 0, none⟩) (Kd.V_far (p := ⟨gb297, 2, none⟩) (Kd.V_far (p := ⟨gb297, 1, none⟩) (Kd.V_far (p := ⟨gb297, 0, none⟩) (Kd.V_mono (Kd.V_mono HO_283002.out (fun k_ hk => (⟨hk, hk.2.2.2.2.2.2.2⟩ : _ ∧ k_ ≠ gb297))) (fun k_ hk => (⟨hk, hk.1.2.2.2.2.2.2.1⟩ : _ ∧ k_ ≠ gb283))) (fun _ hk => hk.1.2) (.int .u64 t288)) (fun _ hk => hk.1.2) (.int .u64 t289)) (fun _ hk => hk.1.2) (.slice Ao49 t290.length co49)) (fun _ hk => hk.2) (.int .u64 t288)) (fun _ hk => hk.2) (.int .u64 t289)) (fun _ hk => hk.2) (.slice Ao49 t290.length co49)) (fun _ hk => ⟨⟨hk.1.1.1, ⟨hk.1.1.2.2.2.1, ⟨hk.1.1.2.1, ⟨hk.1.1.2.2.2.2.1, ⟨hk.1.1.2.2.2.2.2.1, ⟨hk.1.1.2.2.2.2.2.2.1, hk.1.1.2.2.2.2.2.2.2⟩⟩⟩⟩⟩⟩, hk.1.1.2.2.1⟩)) hg hat); have n3_ := Aside0.mk (Kd.V_afterv (ok := (fun k_ => (P0_2_ k_ ∨ w.heap.size ≤ k_) ∧ some k_ ≠ (v279 : Value).ownBlock ∧ some k_ ≠ (.slice Ao59 t293.length co59 : Value).ownBlock ∧ k_ ≠ gb270 ∧ k_ ≠ gb282 ∧ k_ ≠ gb283 ∧ k_ ≠ gb297)) (by (with_reducible repeat (first | apply Kd.V_alloc | apply Kd.V_drewN | apply Kd.V_drew)); exact Kd.V_mono (Kd.V_far (p := ⟨gb283, 2, none⟩) (Kd.V_far (p := ⟨gb283, 1, none⟩) (Kd.V_far (p := ⟨gb283, 0, none⟩) (Kd.V_far (p := ⟨gb297, 2, none⟩) (Kd.V_far (p := ⟨gb297, 1, none⟩) (Kd.V_far (p := ⟨gb297, 0, none⟩) (Kd.V_mono (Kd.V_mono HO_284002.out (fun k_ hk => (⟨hk, hk.2.2.2.2.2.2.2⟩ : _ ∧ k_ ≠ gb297))) (fun k_ hk => (⟨hk, hk.1.2.2.2.2.2.2.1⟩ : _ ∧ k_ ≠ gb283))) (fun _ hk => hk.1.2) (.int .u64 t288)) (fun _ hk => hk.1.2) (.int .u64 t289)) (fun _ hk => hk.1.2) (.slice Ao49 t290.length co49)) (fun _ hk => hk.2) (.int .u64 t288)) (fun _ hk => hk.2) (.int .u64 t289)) (fun _ hk => hk.2) (.slice Ao49 t290.length co49)) (fun _ hk => ⟨⟨hk.1.1.1, ⟨hk.1.1.2.2.2.1, ⟨hk.1.1.2.1, ⟨hk.1.1.2.2.2.2.1, ⟨hk.1.1.2.2.2.2.2.1, ⟨hk.1.1.2.2.2.2.2.2.1, hk.1.1.2.2.2.2.2.2.2⟩⟩⟩⟩⟩⟩, hk.1.1.2.2.1⟩)) hg hat); have n4_ := Aside0.mk (blk_grown (g := gb270) (o := .cells #[.int .u64 a0_0, .int .u64 a0_1, .slice (some ad287) l0_2.length c0_2] 25 (0, 0)) (by (with_reducible repeat (first | refine blk_drewN ?_ _ | refine blk_drew ?_ | refine blk_alloc ?_ _)); refine blk_far ?_ NB270_283.out _; (with_reducible repeat (first | refine blk_drewN ?_ _ | refine blk_drew ?_ | refine blk_alloc ?_ _)); refine blk_far ?_ NB270_283.out _; (with_reducible repeat (first | refine blk_drewN ?_ _ | refine blk_drew ?_ | refine blk_alloc ?_ _)); refine blk_far ?_ NB270_283.out _; (with_reducible repeat (first | refine blk_drewN ?_ _ | refine blk_drew ?_ | refine blk_alloc ?_ _)); refine blk_far ?_ NB270_297.out _; (with_reducible repeat (first | refine blk_drewN ?_ _ | refine blk_drew ?_ | refine blk_alloc ?_ _)); refine blk_far ?_ NB270_297.out _; (with_reducible repeat (first | refine blk_drewN ?_ _ | refine blk_drew ?_ | refine blk_alloc ?_ _)); refine blk_far ?_ NB270_297.out _; (with_reducible repeat (first | refine blk_drewN ?_ _ | refine blk_drew ?_ | refine blk_alloc ?_ _)); exact BK270.out) hg (Kd.R_ne HO_11.out BK270.out (by decide))); have n5_ := Aside0.mk (blk_grown (g := gb282) (o := .cells #[.int .u64 t273, .int .u64 t274, .slice Ao20 t275.length co20] 25 (0, 0)) (by (with_reducible repeat (first | refine blk_drewN ?_ _ | refine blk_drew ?_ | refine blk_alloc ?_ _)); refine blk_far ?_ NB282_283.out _; (with_reducible repeat (first | refine blk_drewN ?_ _ | refine blk_drew ?_ | refine blk_alloc ?_ _)); refine blk_far ?_ NB282_283.out _; (with_reducible repeat (first | refine blk_drewN ?_ _ | refine blk_drew ?_ | refine blk_alloc ?_ _)); refine blk_far ?_ NB282_283.out _; (with_reducible repeat (first | refine blk_drewN ?_ _ | refine blk_drew ?_ | refine blk_alloc ?_ _)); refine blk_far ?_ NB282_297.out _; (with_reducible repeat (first | refine blk_drewN ?_ _ | refine blk_drew ?_ | refine blk_alloc ?_ _)); refine blk_far ?_ NB282_297.out _; (with_reducible repeat (first | refine blk_drewN ?_ _ | refine blk_drew ?_ | refine blk_alloc ?_ _)); refine blk_far ?_ NB282_297.out _; (with_reducible repeat (first | refine blk_drewN ?_ _ | refine blk_drew ?_ | refine blk_alloc ?_ _)); exact BK282.out) hg (Kd.R_ne HO_11.out BK282.out (by decide))); have n6_ := Aside0.mk (blk_grown (g := gb283) (o := .cells #[.int .u64 t288, .int .u64 t289, .slice Ao49 t290.length co49] 25 (0, 0)) (by (with_reducible repeat (first | refine blk_drewN ?_ _ | refine blk_drew ?_ | refine blk_alloc ?_ _)); refine blk_put (cs := #[.int .u64 t288, .int .u64 t289, .slice Ao42 x284002_2.length co42]) ?_ 2 _ rfl; (with_reducible repeat (first | refine blk_drewN ?_ _ | refine blk_drew ?_ | refine blk_alloc ?_ _)); refine blk_put (cs := #[.int .u64 t288, .int .u64 x284001_2, .slice Ao42 x284002_2.length co42]) ?_ 1 _ rfl; (with_reducible repeat (first | refine blk_drewN ?_ _ | refine blk_drew ?_ | refine blk_alloc ?_ _)); refine blk_put (cs := #[.int .u64 x284000_2, .int .u64 x284001_2, .slice Ao42 x284002_2.length co42]) ?_ 0 _ rfl; (with_reducible repeat (first | refine blk_drewN ?_ _ | refine blk_drew ?_ | refine blk_alloc ?_ _)); refine blk_far ?_ NB283_297.out _; (with_reducible repeat (first | refine blk_drewN ?_ _ | refine blk_drew ?_ | refine blk_alloc ?_ _)); refine blk_far ?_ NB283_297.out _; (with_reducible repeat (first | refine blk_drewN ?_ _ | refine blk_drew ?_ | refine blk_alloc ?_ _)); refine blk_far ?_ NB283_297.out _; (with_reducible repeat (first | refine blk_drewN ?_ _ | refine blk_drew ?_ | refine blk_alloc ?_ _)); exact BK283.out) hg (Kd.R_ne HO_11.out BK283.out (by decide))); have n7_ := Aside0.mk (Kd.V_afterv (ok := (fun k_ => (P0_2_ k_ ∨ w.heap.size ≤ k_) ∧ some k_ ≠ (v279 : Value).ownBlock ∧ some k_ ≠ (.slice Ao59 t293.length co59 : Value).ownBlock ∧ k_ ≠ gb270 ∧ k_ ≠ gb282 ∧ k_ ≠ gb283 ∧ k_ ≠ gb297)) (by (with_reducible repeat (first | apply Kd.V_alloc | apply Kd.V_drewN | apply Kd.V_drew)); exact Kd.V_mono (Kd.V_far (p := ⟨gb283, 2, none⟩) (Kd.V_far (p := ⟨gb283, 1, none⟩) (Kd.V_far (p := ⟨gb283, 0, none⟩) (Kd.V_far (p := ⟨gb297, 2, none⟩) (Kd.V_far (p := ⟨gb297, 1, none⟩) (Kd.V_far (p := ⟨gb297, 0, none⟩) (Kd.V_mono (Kd.V_mono HO292.out (fun k_ hk => (⟨hk, hk.2.2.2.2.2.2.2⟩ : _ ∧ k_ ≠ gb297))) (fun k_ hk => (⟨hk, hk.1.2.2.2.2.2.2.1⟩ : _ ∧ k_ ≠ gb283))) (fun _ hk => hk.1.2) (.int .u64 t288)) (fun _ hk => hk.1.2) (.int .u64 t289)) (fun _ hk => hk.1.2) (.slice Ao49 t290.length co49)) (fun _ hk => hk.2) (.int .u64 t288)) (fun _ hk => hk.2) (.int .u64 t289)) (fun _ hk => hk.2) (.slice Ao49 t290.length co49)) (fun _ hk => ⟨⟨hk.1.1.1, ⟨hk.1.1.2.2.2.1, ⟨hk.1.1.2.1, ⟨hk.1.1.2.2.2.2.1, ⟨hk.1.1.2.2.2.2.2.1, ⟨hk.1.1.2.2.2.2.2.2.1, hk.1.1.2.2.2.2.2.2.2⟩⟩⟩⟩⟩⟩, hk.1.1.2.2.1⟩)) hg hat); have n8_ := Aside0.mk (Kd.R_after (ok := (fun k_ => (w.heap.size ≤ k_) ∧ some k_ ≠ (v279 : Value).ownBlock)) (by (with_reducible repeat (first | apply Kd.R_alloc | apply Kd.R_drewN | apply Kd.R_drew)); exact Kd.R_mono (Kd.R_far (p := ⟨gb283, 2, none⟩) (Kd.R_far (p := ⟨gb283, 1, none⟩) (Kd.R_far (p := ⟨gb283, 0, none⟩) (Kd.R_far (p := ⟨gb297, 2, none⟩) (Kd.R_far (p := ⟨gb297, 1, none⟩) (Kd.R_far (p := ⟨gb297, 0, none⟩) (Kd.R_types (Kd.R_types HO295.out BK297.out (by decide)) BK283.out (by decide)) (fun _ hk => hk.1.2) (.int .u64 t288)) (fun _ hk => hk.1.2) (.int .u64 t289)) (fun _ hk => hk.1.2) (.slice Ao49 t290.length co49)) (fun _ hk => hk.2) (.int .u64 t288)) (fun _ hk => hk.2) (.int .u64 t289)) (fun _ hk => hk.2) (.slice Ao49 t290.length co49)) (fun _ hk => ⟨⟨hk.1.1.1, hk.1.1.2.2⟩, hk.1.1.2.1⟩)) hg hat); have n9_ := Aside0.mk (blk_grown (g := gb297) (o := .cells #[.int .u64 t288, .int .u64 t289, .slice Ao49 t290.length co49] 25 (0, 0)) (by (with_reducible repeat (first | refine blk_drewN ?_ _ | refine blk_drew ?_ | refine blk_alloc ?_ _)); refine blk_far ?_ NB297_283.out _; (with_reducible repeat (first | refine blk_drewN ?_ _ | refine blk_drew ?_ | refine blk_alloc ?_ _)); refine blk_far ?_ NB297_283.out _; (with_reducible repeat (first | refine blk_drewN ?_ _ | refine blk_drew ?_ | refine blk_alloc ?_ _)); refine blk_far ?_ NB297_283.out _; (with_reducible repeat (first | refine blk_drewN ?_ _ | refine blk_drew ?_ | refine blk_alloc ?_ _)); refine blk_put (cs := #[.int .u64 t288, .int .u64 t289, .slice none 0 0]) ?_ 2 _ rfl; (with_reducible repeat (first | refine blk_drewN ?_ _ | refine blk_drew ?_ | refine blk_alloc ?_ _)); refine blk_put (cs := #[.int .u64 t288, .int .u64 0, .slice none 0 0]) ?_ 1 _ rfl; (with_reducible repeat (first | refine blk_drewN ?_ _ | refine blk_drew ?_ | refine blk_alloc ?_ _)); refine blk_put (cs := #[.int .u64 0, .int .u64 0, .slice none 0 0]) ?_ 0 _ rfl; (with_reducible repeat (first | refine blk_drewN ?_ _ | refine blk_drew ?_ | refine blk_alloc ?_ _)); exact BK297.out) hg (Kd.R_ne HO_11.out BK297.out (by decide))); have n10_ := Aside0.mk (hb); have n11_ := Aside0.mk (ho); clear HO_8; clear HO_271002; clear HO_283002; clear HO_284002; clear BK270; clear BK282; clear BK283; clear HO292; clear HO295; clear BK297; clear HB; clear HO_11; have HO_8 := n0_; have HO_271002 := n1_; have HO_283002 := n2_; have HO_284002 := n3_; have BK270 := n4_; have BK282 := n5_; have BK283 := n6_; have HO292 := n7_; have HO295 := n8_; have BK297 := n9_; have HB := n10_; have HO300 := n11_; clear n0_ n1_ n2_ n3_ n4_ n5_ n6_ n7_ n8_ n9_ n10_ n11_; clear ho hb hg hat))
                              go_roundg kj26
                              case measure => have := HJ4.out; have := HK2.out; have := HJ26.out; omega
                              case rel => exact ⟨(y298), (wrap64 (x12_2 + 1)), (t288), (t289), (t290), (.slice Ao49 t290.length co49), (by first | rfl | (simp; done) | (simp [*]; done)), H', ⟨by have := HJ4.out; have := HK2.out; have := HJ26.out; omega⟩, ⟨by (with_reducible repeat (first | apply Kd.R_alloc | apply Kd.R_drewN | apply Kd.R_drew)); exact Kd.R_mono HO_8.out (fun _ hk => ⟨hk.1.1, hk.2⟩)⟩, ⟨by (with_reducible repeat (first | apply Kd.R_alloc | apply Kd.R_drewN | apply Kd.R_drew)); exact Kd.R_mono HO300.out (fun _ hk => ⟨hk.1, hk.2.1⟩)⟩, ⟨by (with_reducible repeat (first | apply Kd.V_alloc | apply Kd.V_drewN | apply Kd.V_drew)); exact Kd.V_mono HO_271002.out (fun _ hk => ⟨hk.1.1, ⟨hk.1.2.1, ⟨hk.2, ⟨hk.1.2.2.2.1, ⟨hk.1.2.2.2.2.1, hk.1.2.2.2.2.2.1⟩⟩⟩⟩⟩)⟩, ⟨by (with_reducible repeat (first | apply Kd.V_alloc | apply Kd.V_drewN | apply Kd.V_drew)); exact Kd.V_mono HO_283002.out (fun _ hk => ⟨hk.1.1, ⟨hk.1.2.1, ⟨hk.2, ⟨hk.1.2.2.2.1, ⟨hk.1.2.2.2.2.1, hk.1.2.2.2.2.2.1⟩⟩⟩⟩⟩)⟩, ⟨by (with_reducible repeat (first | apply Kd.V_alloc | apply Kd.V_drewN | apply Kd.V_drew)); exact Kd.V_mono HO292.out (fun _ hk => ⟨hk.1.1, ⟨hk.1.2.1, ⟨hk.2, ⟨hk.1.2.2.2.1, ⟨hk.1.2.2.2.2.1, hk.1.2.2.2.2.2.1⟩⟩⟩⟩⟩)⟩, ⟨by (with_reducible repeat (first | refine blk_drewN ?_ _ | refine blk_drew ?_ | refine blk_alloc ?_ _)); exact BK270.out⟩, ⟨by (with_reducible repeat (first | refine blk_drewN ?_ _ | refine blk_drew ?_ | refine blk_alloc ?_ _)); exact BK282.out⟩, ⟨by (with_reducible repeat (first | refine blk_drewN ?_ _ | refine blk_drew ?_ | refine blk_alloc ?_ _)); exact BK283.out⟩, ⟨by repeat (first | (with_reducible first | exact HB.out | apply below_alloc | apply pw_below_drewN | apply below_drew1 | refine below_set ?_ GE270.out | refine below_set ?_ GE282.out | refine below_set ?_ GE283.out | refine below_set ?_ GE297.out) | exact HB.out)⟩⟩
                            · rw [if_neg c41] at H
                              exact absurd H (by simp)
                          · rw [if_neg c40] at H
                            exact absurd ((Option.some.inj H).trans hT_.out) (by decide)
                        · rw [if_neg c38] at H
                          exact absurd H (by simp)
                      · rw [if_neg c37] at H
                        exact absurd H (by simp)
              · rw [if_neg c26] at H
                have c26b0 : decide (x12_2 < (l0_2.length : Int)) = false := decide_eq_false c26
                clear c26
                have c60 : true = true := rfl
                · clear c60
                  have H1 : ((interchangeref15_Nums.f k2 x11_2 t278).bind fun t284 => (if t284 = true then ((tags_Same.f k2 x284000_2 x284001_2 x284002_2 t273 t274 t275).bind fun t285 => (some t285)) else (some false))) = some r := by first | (rw [if_pos rfl] at H; exact H) | (rw [if_pos trivial] at H; exact H)
                  clear H
                  have H := H1
                  clear H1
                  replace H := Option.bind_eq_some_iff.mp H
                  obtain ⟨t284, A610, H⟩ := H
                  replace H : (if t284 = true then ((tags_Same.f k2 x284000_2 x284001_2 x284002_2 t273 t274 t275).bind fun t285 => (some t285)) else (some false)) = some r := H
                  have A61 := Aside0.mk A610
                  clear A610
                  by_cases c62 : t284 = true
                  · subst c62
                    have H1 : ((tags_Same.f k2 x284000_2 x284001_2 x284002_2 t273 t274 t275).bind fun t285 => (some t285)) = some r := by rw [if_pos rfl] at H; exact H
                    clear H
                    have H := H1
                    clear H1
                    replace H := Option.bind_eq_some_iff.mp H
                    obtain ⟨t285, A630, H⟩ := H
                    replace H : (some t285) = some r := H
                    have A63 := Aside0.mk A630
                    clear A630
                    replace H : (if t285 = true then (some true) else (some false)) = some r := by
                      rw [← H]
                      by_cases hc_ : t285 = true
                      · rw [if_pos hc_]; exact congrArg some (Eq.symm (by first | exact decide_eq_true hc_ | exact beq_iff_eq.mpr hc_ | exact hc_ | (simp [hc_]; done) | simp_all))
                      · rw [if_neg hc_]; exact congrArg some (Eq.symm (by first | exact decide_eq_false hc_ | exact beq_eq_false_iff_ne.mpr hc_ | exact Bool.eq_false_iff.mpr hc_ | (simp [hc_]; done) | simp_all))
                    by_cases c64 : t285 = true
                    · subst c64
                      have H1 : (some true) = some r := by rw [if_pos rfl] at H; exact H
                      clear H
                      have H := H1
                      clear H1
                      obtain rfl := Option.some.inj H
                      have hnb65 := NB270_282.out
                      have hnc65 := NB282_270.out
                      have hnb66 := NB270_283.out
                      have hnc66 := NB283_270.out
                      have hcz67_0 : wr.cell? ⟨gb270, 0, none⟩ = some (.int .u64 a0_0) := (blk_cell BK270.out 0).trans rfl
                      have hcz67_1 : wr.cell? ⟨gb270, 1, none⟩ = some (.int .u64 a0_1) := (blk_cell BK270.out 1).trans rfl
                      have hcz67_2 : wr.cell? ⟨gb270, 2, none⟩ = some (.slice A0_2 l0_2.length c0_2) := (blk_cell BK270.out 2).trans rfl
                      have hfz67_0 := blk_frozen BK270.out 0
                      have hfz67_1 := blk_frozen BK270.out 1
                      have hfz67_2 := blk_frozen BK270.out 2
                      obtain ⟨Ao68, co68, eo68⟩ := Kd.R_slice HO_11.out
                      subst eo68
                      obtain ⟨Ao69, co69, eo69⟩ := Kd.R_slice HO_8.out
                      subst eo69
                      go_wp2_with (first | (go_at_call 16; (with_reducible refine (interchangeref15_Nums.calls k2 _ _ x11_2 _ _ t278 true _ ?side1 ?side2 ?side3 ?side4 A61.out).mono ?_); (case side1 => repeat (first | exact (Kd.R_reads' HO_11.out).2.2 | (with_reducible refine Kd.C_alloc ?_ _) | (with_reducible refine Kd.C_drewN ?_ _) | (with_reducible refine Kd.C_drew ?_))); (case side2 => exact (Kd.R_reads' HO_11.out).2.1); (case side3 => repeat (first | exact (Kd.R_reads' HO_8.out).2.2 | (with_reducible refine Kd.C_alloc ?_ _) | (with_reducible refine Kd.C_drewN ?_ _) | (with_reducible refine Kd.C_drew ?_))); (case side4 => exact (Kd.R_reads' HO_8.out).2.1); rintro e w' ⟨rfl, ⟨nd, rfl⟩⟩; have hnb70 := NB283_282.out; have hnc70 := NB282_283.out; have hcz71_0 : wr.cell? ⟨gb283, 0, none⟩ = some (.int .u64 x284000_2) := (blk_cell BK283.out 0).trans rfl; have hcz71_1 : wr.cell? ⟨gb283, 1, none⟩ = some (.int .u64 x284001_2) := (blk_cell BK283.out 1).trans rfl; have hcz71_2 : wr.cell? ⟨gb283, 2, none⟩ = some (u284002) := (blk_cell BK283.out 2).trans rfl; have hfz71_0 := blk_frozen BK283.out 0; have hfz71_1 := blk_frozen BK283.out 1; have hfz71_2 := blk_frozen BK283.out 2; have hcz72_0 : wr.cell? ⟨gb282, 0, none⟩ = some (.int .u64 t273) := (blk_cell BK282.out 0).trans rfl; have hcz72_1 : wr.cell? ⟨gb282, 1, none⟩ = some (.int .u64 t274) := (blk_cell BK282.out 1).trans rfl; have hcz72_2 : wr.cell? ⟨gb282, 2, none⟩ = some (.slice Ao20 t275.length co20) := (blk_cell BK282.out 2).trans rfl; have hfz72_0 := blk_frozen BK282.out 0; have hfz72_1 := blk_frozen BK282.out 1; have hfz72_2 := blk_frozen BK282.out 2; obtain ⟨Ao73, co73, eo73⟩ := Kd.V_slice HO_284002.out; subst eo73) | (go_at_call 17; (with_reducible refine (tags_Same.calls k2 x284000_2 x284001_2 _ _ x284002_2 t273 t274 _ _ t275 true _ ?side1 ?side2 ?side3 ?side4 A63.out).mono ?_); (case side1 => repeat (first | exact (Kd.V_reads' HO_284002.out).2.2 | (with_reducible refine Kd.C_alloc ?_ _) | (with_reducible refine Kd.C_drewN ?_ _) | (with_reducible refine Kd.C_drew ?_))); (case side2 => exact (Kd.V_reads' HO_284002.out).2.1); (case side3 => repeat (first | exact (Kd.V_reads' HO_283002.out).2.2 | (with_reducible refine Kd.C_alloc ?_ _) | (with_reducible refine Kd.C_drewN ?_ _) | (with_reducible refine Kd.C_drew ?_))); (case side4 => exact (Kd.V_reads' HO_283002.out).2.1); rintro e w74 ⟨rfl, hb⟩; have n0_ := Aside0.mk (Kd.R_below (by (with_reducible repeat (first | apply Kd.R_alloc | apply Kd.R_drewN | apply Kd.R_drew)); exact HO_8.out) hb); have n1_ := Aside0.mk (Kd.R_below (by (with_reducible repeat (first | apply Kd.R_alloc | apply Kd.R_drewN | apply Kd.R_drew)); exact HO_11.out) hb); have n2_ := Aside0.mk (Kd.V_below (by (with_reducible repeat (first | apply Kd.V_alloc | apply Kd.V_drewN | apply Kd.V_drew)); exact HO_271002.out) hb); have n3_ := Aside0.mk (Kd.V_below (by (with_reducible repeat (first | apply Kd.V_alloc | apply Kd.V_drewN | apply Kd.V_drew)); exact HO_283002.out) hb); have n4_ := Aside0.mk (Kd.V_below (by (with_reducible repeat (first | apply Kd.V_alloc | apply Kd.V_drewN | apply Kd.V_drew)); exact HO_284002.out) hb); have n5_ := Aside0.mk (blk_below (g := gb270) (o := .cells #[.int .u64 a0_0, .int .u64 a0_1, .slice A0_2 l0_2.length c0_2] 25 (0, 0)) (by (with_reducible repeat (first | refine blk_drewN ?_ _ | refine blk_drew ?_ | refine blk_alloc ?_ _)); exact BK270.out) hb); have n6_ := Aside0.mk (blk_below (g := gb282) (o := .cells #[.int .u64 t273, .int .u64 t274, .slice Ao20 t275.length co20] 25 (0, 0)) (by (with_reducible repeat (first | refine blk_drewN ?_ _ | refine blk_drew ?_ | refine blk_alloc ?_ _)); exact BK282.out) hb); have n7_ := Aside0.mk (blk_below (g := gb283) (o := .cells #[.int .u64 x284000_2, .int .u64 x284001_2, .slice Ao73 x284002_2.length co73] 25 (0, 0)) (by (with_reducible repeat (first | refine blk_drewN ?_ _ | refine blk_drew ?_ | refine blk_alloc ?_ _)); exact BK283.out) hb); have n8_ := Aside0.mk (below_step (by repeat (first | (with_reducible first | exact HB.out | apply below_alloc | apply pw_below_drewN | apply below_drew1 | refine below_set ?_ GE270.out | refine below_set ?_ GE282.out | refine below_set ?_ GE283.out) | exact HB.out)) hb); clear HO_8; clear HO_11; clear HO_271002; clear HO_283002; clear HO_284002; clear BK270; clear BK282; clear BK283; clear HB; have HO_8 := n0_; have HO_11 := n1_; have HO_271002 := n2_; have HO_283002 := n3_; have HO_284002 := n4_; have BK270 := n5_; have BK282 := n6_; have BK283 := n7_; have HB := n8_; clear n0_ n1_ n2_ n3_ n4_ n5_ n6_ n7_ n8_; (try clear hb); (try clear hb2); (try clear hk); (try clear hi)))
                      go_ret
                      exact ⟨by first | rfl | (simp [errW_none, errW_some] <;> rfl) | (simp [*, errW_none, errW_some] <;> rfl) | (exfalso; simp only [decide_eq_true_eq, decide_eq_false_iff_not, beq_iff_eq, bne_iff_ne, ne_eq, beq_eq_false_iff_ne, bne_eq_false_iff_eq] at *; omega), by repeat (first | (with_reducible first | exact HB.out | apply below_alloc | apply pw_below_drewN | apply below_drew1 | refine below_set ?_ GE270.out | refine below_set ?_ GE282.out | refine below_set ?_ GE283.out) | exact HB.out)⟩
                    · replace c64 := Bool.eq_false_iff.mpr c64
                      subst c64
                      have H1 : (some false) = some r := by rw [if_neg (show ¬ (false = true) by decide)] at H; exact H
                      clear H
                      have H := H1
                      clear H1
                      exact absurd ((Option.some.inj H).trans hT_.out) (by decide)
                  · replace c62 := Bool.eq_false_iff.mpr c62
                    subst c62
                    have H1 : (some false) = some r := by rw [if_neg (show ¬ (false = true) by decide)] at H; exact H
                    clear H
                    have H := H1
                    clear H1
                    exact absurd ((Option.some.inj H).trans hT_.out) (by decide)
        · rw [if_neg c14] at H
          have c14b0 : (t281 == 0) = false := beq_eq_false_iff_ne.mpr c14
          have c14b1 : (t281 != 0) = true := bne_iff_ne.mpr c14
          obtain rfl := Option.some.inj H
          have hcz75_0 : wc.cell? ⟨gb270, 0, none⟩ = some (.int .u64 a0_0) := (blk_cell BK270.out 0).trans rfl
          have hcz75_1 : wc.cell? ⟨gb270, 1, none⟩ = some (.int .u64 a0_1) := (blk_cell BK270.out 1).trans rfl
          have hcz75_2 : wc.cell? ⟨gb270, 2, none⟩ = some (.slice A0_2 l0_2.length c0_2) := (blk_cell BK270.out 2).trans rfl
          have hfz75_0 := blk_frozen BK270.out 0
          have hfz75_1 := blk_frozen BK270.out 1
          have hfz75_2 := blk_frozen BK270.out 2
          go_wp2_with (first | ((with_reducible refine gate_callee (f := 12) rfl ?_); refine goesL_ (some 31) rfl rfl Try.func12 (by kernel_rfl) rfl #[.agg #[.int .u64 a0_0, .int .u64 a0_1, .slice A0_2 l0_2.length c0_2], .int .u64 a1, .bool true] rfl (by (try simp only [List.map_toArray, List.map_cons, List.map_nil]); first | done | rfl | (simp only [List.length_drop, List.length_take]; rfl)) ?_; (with_reducible refine (tags_Settle.calls a0_0 a0_1 (fun k_ => ((P0_2_ k_ ∨ w.heap.size ≤ k_) ∧ k_ ≠ gb270)) _ _ l0_2 a1 true t273 t274 t275 t278 t281 _ ?side1 A13.out).mono ?_); (case side1 => exact HO_271002.out); rintro e w76 ⟨v276, v279, rfl, ho0, ho1, hb⟩; refine ⟨_, rfl, ?_⟩; have n0_ := Aside0.mk (Kd.V_elder' (by (with_reducible repeat (first | apply Kd.V_alloc | apply Kd.V_drewN | apply Kd.V_drew)); exact HO_271002.out) (Kd.R_base ho1) hb); have n1_ := Aside0.mk (Kd.V_lower (Kd.V_mono (ok' := fun k_ => (P0_2_ k_ ∨ w.heap.size ≤ k_) ∧ some k_ ≠ (v279 : Value).ownBlock ∧ k_ ≠ gb270) ho0 (fun k_ hk_ => ⟨Or.elim hk_.1 (fun hs_ => hs_.1) (fun hn_ => (.inr (Nat.le_trans (below_size (by repeat (first | (with_reducible first | exact HB.out | apply below_alloc | apply pw_below_drewN | apply below_drew1 | refine below_set ?_ GE270.out) | exact HB.out))) hn_))), hk_.2, Or.elim hk_.1 (fun hs_ => hs_.2) (fun hn_ => (Kd.freshB (g := gb270) (o := .cells #[.int .u64 a0_0, .int .u64 a0_1, .slice A0_2 l0_2.length c0_2] 25 (0, 0)) (by (with_reducible repeat (first | refine blk_drewN ?_ _ | refine blk_drew ?_ | refine blk_alloc ?_ _)); exact BK270.out) k_ hn_))⟩)) (below_size (by repeat (first | (with_reducible first | exact HB.out | apply below_alloc | apply pw_below_drewN | apply below_drew1 | refine below_set ?_ GE270.out) | exact HB.out)))); have n2_ := Aside0.mk (Kd.R_lower (Kd.R_newM (M := fun k_ => (w.heap.size ≤ k_)) (Kd.R_mono (ok' := fun k_ => True) ho1 (fun _ hk_ => trivial)) (below_size (by repeat (first | (with_reducible first | exact HB.out | apply below_alloc | apply pw_below_drewN | apply below_drew1 | refine below_set ?_ GE270.out) | exact HB.out))) (fun k_ h_ => h_)) (below_size (by repeat (first | (with_reducible first | exact HB.out | apply below_alloc | apply pw_below_drewN | apply below_drew1 | refine below_set ?_ GE270.out) | exact HB.out)))); have n3_ := Aside0.mk (blk_below (g := gb270) (o := .cells #[.int .u64 a0_0, .int .u64 a0_1, .slice A0_2 l0_2.length c0_2] 25 (0, 0)) (by (with_reducible repeat (first | refine blk_drewN ?_ _ | refine blk_drew ?_ | refine blk_alloc ?_ _)); exact BK270.out) hb); have n4_ := Aside0.mk (below_step (by repeat (first | (with_reducible first | exact HB.out | apply below_alloc | apply pw_below_drewN | apply below_drew1 | refine below_set ?_ GE270.out) | exact HB.out)) hb); clear HO_271002; clear BK270; clear HB; have HO_271002 := n0_; have HO277 := n1_; have HO280 := n2_; have BK270 := n3_; have HB := n4_; clear n0_ n1_ n2_ n3_ n4_; (try clear hb); (try clear hb2); (try clear hk); (try clear hi); (try clear ho0); (try clear ho1)) | ((with_reducible refine gate_dst (N := 7) rfl ?_); (try (refine gate_guard (by rfl) ?_; dsimp only)); refine box_event ?hg (N := 7) ?hd (cs := #[.int .u64 0, .int .u64 0, .slice none 0 0]) (t := 25) ?hr ?_; (case hd => rfl); (case hg => rfl); (case hr => first | (go_simp; done) | (go_simp; rfl)); intro gb282 hg w77 hbox hb; have n0_ := Aside0.mk (Kd.V_below (Kd.V_elderB (by (with_reducible repeat (first | apply Kd.V_alloc | apply Kd.V_drewN | apply Kd.V_drew)); exact HO_271002.out) gb282 (Nat.le_of_eq hg.symm)) hb); have n1_ := Aside0.mk (Kd.V_below (Kd.V_elderB (by (with_reducible repeat (first | apply Kd.V_alloc | apply Kd.V_drewN | apply Kd.V_drew)); exact HO277.out) gb282 (Nat.le_of_eq hg.symm)) hb); have n2_ := Aside0.mk (Kd.R_below (by (with_reducible repeat (first | apply Kd.R_alloc | apply Kd.R_drewN | apply Kd.R_drew)); exact HO280.out) hb); have n3_ := Aside0.mk (blk_below (g := gb270) (o := .cells #[.int .u64 a0_0, .int .u64 a0_1, .slice A0_2 l0_2.length c0_2] 25 (0, 0)) (by (with_reducible repeat (first | refine blk_drewN ?_ _ | refine blk_drew ?_ | refine blk_alloc ?_ _)); exact BK270.out) hb); have n4_ := Aside0.mk (below_step (by repeat (first | (with_reducible first | exact HB.out | apply below_alloc | apply pw_below_drewN | apply below_drew1 | refine below_set ?_ GE270.out) | exact HB.out)) hb); have n5_ := Aside0.mk (hbox); have n6_ := Aside0.mk ((by rw [hg]; exact (below_size (by repeat (first | (with_reducible first | exact HB.out | apply below_alloc | apply pw_below_drewN | apply below_drew1 | refine below_set ?_ GE270.out) | exact HB.out))) : w.heap.size ≤ gb282)); have n7_ := Aside0.mk ((by rw [hg]; exact (below_size (by repeat (first | (with_reducible first | exact HB.out | apply below_alloc | apply pw_below_drewN | apply below_drew1 | refine below_set ?_ GE270.out) | exact HB.out))) : w.heap.size ≤ gb282)); have n8_ := Aside0.mk ((by rw [hg]; exact Nat.ne_of_lt (blk_lt (g := gb270) (o := .cells #[.int .u64 a0_0, .int .u64 a0_1, .slice A0_2 l0_2.length c0_2] 25 (0, 0)) (by (with_reducible repeat (first | refine blk_drewN ?_ _ | refine blk_drew ?_ | refine blk_alloc ?_ _)); exact BK270.out)) : gb270 ≠ gb282)); have n9_ := Aside0.mk ((by rw [hg]; exact Nat.ne_of_gt (blk_lt (g := gb270) (o := .cells #[.int .u64 a0_0, .int .u64 a0_1, .slice A0_2 l0_2.length c0_2] 25 (0, 0)) (by (with_reducible repeat (first | refine blk_drewN ?_ _ | refine blk_drew ?_ | refine blk_alloc ?_ _)); exact BK270.out)) : gb282 ≠ gb270)); clear HO_271002; clear HO277; clear HO280; clear BK270; clear HB; have HO_271002 := n0_; have HO277 := n1_; have HO280 := n2_; have BK270 := n3_; have HB := n4_; have BK282 := n5_; have GW282 := n6_; have GE282 := n7_; have NB270_282 := n8_; have NB282_270 := n9_; clear n0_ n1_ n2_ n3_ n4_ n5_ n6_ n7_ n8_ n9_; clear hb hbox hg; have hnb78 := NB282_270.out; have hnc78 := NB270_282.out; have hcz79_0 : w77.cell? ⟨gb282, 0, none⟩ = some (.int .u64 0) := (blk_cell BK282.out 0).trans rfl; have hcz79_1 : w77.cell? ⟨gb282, 1, none⟩ = some (.int .u64 0) := (blk_cell BK282.out 1).trans rfl; have hcz79_2 : w77.cell? ⟨gb282, 2, none⟩ = some (.slice none 0 0) := (blk_cell BK282.out 2).trans rfl; have hfz79_0 := blk_frozen BK282.out 0; have hfz79_1 := blk_frozen BK282.out 1; have hfz79_2 := blk_frozen BK282.out 2; obtain ⟨Ao80, co80, eo80⟩ := Kd.V_slice HO277.out; subst eo80))
          go_ret
          exact ⟨by first | rfl | (simp [errW_none, errW_some] <;> rfl) | (simp [*, errW_none, errW_some] <;> rfl) | (exfalso; simp only [decide_eq_true_eq, decide_eq_false_iff_not, beq_iff_eq, bne_iff_ne, ne_eq, beq_eq_false_iff_ne, bne_eq_false_iff_eq] at *; omega), by repeat (first | (with_reducible first | exact HB.out | apply below_alloc | apply pw_below_drewN | apply below_drew1 | refine below_set ?_ GE270.out | refine below_set ?_ GE282.out) | exact HB.out)⟩

end Go.Proofs.Ytoljcjlflanflaa.Q
