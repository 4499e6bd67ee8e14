/- This text was written by a program of this session: what each Go function computes, as a Lean function, and that its call does so. -/
import Derived.Test.YteomnodigfcfeaaQ0
import Derived.Test.YteomnodigfcfeaaQ10
import Derived.Test.YteomnodigfcfeaaQE0
import Derived.Test.YteomnodigfcfeaaH10
import Derived.Test.YteomnodigfcfeaaH16
import Derived.Test.YteomnodigfcfeaaH18
namespace Go.Proofs.Yteomnodigfcfeaa.Q
open Go.RowKit Go.Proofs.YteomnodigfcfeaaW.PrintWords Go.Proofs.YteomnodigfcfeaaW.PrintLast Go.Proofs.YteomnodigfcfeaaW.PrintMore
attribute [local go_sem] max2_int min2_int max_two min_two max_three min_three max_four min_four   -- for this text's walks alone
set_option linter.unusedVariables false
set_option linter.unusedSimpArgs false

attribute [local go_sem high] eqA24
/-! ### interchangelaw12_BeatSets: function 5 -/
mutual
def interchangelaw12_BeatSets.l0 : Nat → List (S24) → Int → Bool → List (S24) → List (S24) → Int → Int → Int → Int → Int → Int → Option (Bool)
  | 0, _, _, _, _, _, _, _, _, _, _, _ => none
  | k + 1, x0, x2, x7, x8, x9, x10, x11, x12, x13, x262000, x262001 => if x13 < (x8.length : Int) then (if 0 ≤ x13 then (if ((rd_T24 x8 x13).f1) = x262001 then (if (!(((rd_T24 x8 x13).f0) == x262000) || (!(((rd_T24 x8 x13).f1) == x262001))) = true then (some false) else (if ((rd_T24 x8 x13).f1) = x2 then (interchangelaw12_BeatSets.l0 k x0 x2 x7 x8 x9 (wrap64 (x10 + 1)) (wrap64 (x11 + 1)) x12 (wrap64 (x13 + 1)) x262000 x262001) else (interchangelaw12_BeatSets.l0 k x0 x2 x7 x8 x9 (wrap64 (x10 + 1)) x11 x12 (wrap64 (x13 + 1)) x262000 x262001))) else (if ((rd_T24 x8 x13).f1) = x2 then (interchangelaw12_BeatSets.l0 k x0 x2 x7 x8 x9 x10 (wrap64 (x11 + 1)) x12 (wrap64 (x13 + 1)) x262000 x262001) else (interchangelaw12_BeatSets.l0 k x0 x2 x7 x8 x9 x10 x11 x12 (wrap64 (x13 + 1)) x262000 x262001))) else (none)) else (interchangelaw12_BeatSets.l1 k x0 x2 x7 x8 x9 x10 x11 x12 0 x262000 x262001)
def interchangelaw12_BeatSets.l1 : Nat → List (S24) → Int → Bool → List (S24) → List (S24) → Int → Int → Int → Int → Int → Int → Option (Bool)
  | 0, _, _, _, _, _, _, _, _, _, _, _ => none
  | k + 1, x0, x2, x7, x8, x9, x10, x11, x12, x14, x262000, x262001 => if x14 < (x0.length : Int) then (if 0 ≤ x14 then (if ((rd_T24 x0 x14).f1) = x2 then (interchangelaw12_BeatSets.l1 k x0 x2 x7 x8 x9 x10 x11 (wrap64 (x12 + 1)) (wrap64 (x14 + 1)) x262000 x262001) else (interchangelaw12_BeatSets.l1 k x0 x2 x7 x8 x9 x10 x11 x12 (wrap64 (x14 + 1)) x262000 x262001)) else (none)) else (if x7 = true then (if x10 = 1 then (if (x9.length : Int) = (wrap64 ((x8.length : Int) - 1)) then (if x2 = x262001 then (some true) else (some (x11 == x12))) else (some false)) else (some false)) else (some false))
end
def interchangelaw12_BeatSets.f (k : Nat) (l0 : List (S24)) (a1_0 : Int) (a1_1 : Int) (a2 : Int) : Option (Bool) := (interchangelaw12_shown.f).bind fun t262 => (if (l0.length : Int) > 200 then (some true) else ((beat_Set.f l0 a1_0 a1_1).bind fun t263 => ((beat_Drop.f t263 a1_1).bind fun t266 => (interchangelaw12_BeatSets.l0 k l0 a2 true t263 t266 0 0 0 0 a1_0 a1_1))))
theorem interchangelaw12_BeatSets.mono_l : ∀ k, (∀ y0 y1 y2 y3 y4 y5 y6 y7 y8 y9 y10, LeO (interchangelaw12_BeatSets.l0 k y0 y1 y2 y3 y4 y5 y6 y7 y8 y9 y10) (interchangelaw12_BeatSets.l0 (k + 1) y0 y1 y2 y3 y4 y5 y6 y7 y8 y9 y10)) ∧ (∀ y0 y1 y2 y3 y4 y5 y6 y7 y8 y9 y10, LeO (interchangelaw12_BeatSets.l1 k y0 y1 y2 y3 y4 y5 y6 y7 y8 y9 y10) (interchangelaw12_BeatSets.l1 (k + 1) y0 y1 y2 y3 y4 y5 y6 y7 y8 y9 y10))
  | 0 => ⟨fun _ _ _ _ _ _ _ _ _ _ _ r h => by simp [interchangelaw12_BeatSets.l0] at h, fun _ _ _ _ _ _ _ _ _ _ _ r h => by simp [interchangelaw12_BeatSets.l1] at h⟩
  | k + 1 => by
    obtain ⟨ih0, ih1⟩ := interchangelaw12_BeatSets.mono_l k
    refine ⟨?_, ?_⟩
    · intro y0 y1 y2 y3 y4 y5 y6 y7 y8 y9 y10
      unfold interchangelaw12_BeatSets.l0
      repeat' first
      | (with_reducible exact ih0 _ _ _ _ _ _ _ _ _ _ _)
      | (with_reducible exact ih1 _ _ _ _ _ _ _ _ _ _ _)
      | (with_reducible exact LeO.refl _)
      | (with_reducible exact LeO.none _)
      | (with_reducible refine LeO.ite ?_ ?_)
      | (with_reducible refine LeO.bind ?_ (fun _ => ?_))
      | exact ih0 _ _ _ _ _ _ _ _ _ _ _
      | exact ih1 _ _ _ _ _ _ _ _ _ _ _
      | exact LeO.none _
      | refine LeO.ite ?_ ?_
      | refine LeO.bind ?_ (fun _ => ?_)
    · intro y0 y1 y2 y3 y4 y5 y6 y7 y8 y9 y10
      unfold interchangelaw12_BeatSets.l1
      repeat' first
      | (with_reducible exact ih0 _ _ _ _ _ _ _ _ _ _ _)
      | (with_reducible exact ih1 _ _ _ _ _ _ _ _ _ _ _)
      | (with_reducible exact LeO.refl _)
      | (with_reducible exact LeO.none _)
      | (with_reducible refine LeO.ite ?_ ?_)
      | (with_reducible refine LeO.bind ?_ (fun _ => ?_))
      | exact ih0 _ _ _ _ _ _ _ _ _ _ _
      | exact ih1 _ _ _ _ _ _ _ _ _ _ _
      | exact LeO.none _
      | refine LeO.ite ?_ ?_
      | refine LeO.bind ?_ (fun _ => ?_)
theorem interchangelaw12_BeatSets.mono : ∀ a0 a1 a2 a3 k, LeO (interchangelaw12_BeatSets.f k a0 a1 a2 a3) (interchangelaw12_BeatSets.f (k + 1) a0 a1 a2 a3) := by
  intro a0 a1 a2 a3 k
  obtain ⟨ih0, ih1⟩ := interchangelaw12_BeatSets.mono_l k
  unfold interchangelaw12_BeatSets.f
  repeat' first
      | (with_reducible exact ih0 _ _ _ _ _ _ _ _ _ _ _)
      | (with_reducible exact ih1 _ _ _ _ _ _ _ _ _ _ _)
      | (with_reducible exact LeO.refl _)
      | (with_reducible exact LeO.none _)
      | (with_reducible refine LeO.ite ?_ ?_)
      | (with_reducible refine LeO.bind ?_ (fun _ => ?_))
      | exact ih0 _ _ _ _ _ _ _ _ _ _ _
      | exact ih1 _ _ _ _ _ _ _ _ _ _ _
      | exact LeO.none _
      | refine LeO.ite ?_ ?_
      | refine LeO.bind ?_ (fun _ => ?_)
set_option maxHeartbeats 8000000 in
set_option maxRecDepth 100000 in
theorem interchangelaw12_BeatSets.calls (k : Nat) (A0 : Option Addr) (c0 : Nat) (l0 : List (S24)) (a1_0 : Int) (a1_1 : Int) (a2 : Int) (r : Bool) (w : World) (hr0 : Kd.C k24 w A0 l0.length l0) (hc0 : l0.length ≤ c0) (hT_ : Aside0 (r = true)) (h : interchangelaw12_BeatSets.f k l0 a1_0 a1_1 a2 = some r) :
    Calls Try.prog 5 #[.slice A0 l0.length c0, .agg #[.int .i64 a1_0, .int .i64 a1_1], .int .i64 a2] w fun e w' => e = .returned (.bool r) ∧ Below w.heap.size w w' := by
  have hu24 := Try.underlying24
  have HR0 := Aside0.mk hr0
  have HC0 := Aside0.mk hc0
  clear hr0 hc0
  have HB := Aside0.mk (Below.refl w.heap.size w)
  have H : ((interchangelaw12_shown.f).bind fun t262 => (if (l0.length : Int) > 200 then (some true) else ((beat_Set.f l0 a1_0 a1_1).bind fun t263 => ((beat_Drop.f t263 a1_1).bind fun t266 => (interchangelaw12_BeatSets.l0 k l0 a2 true t263 t266 0 0 0 0 a1_0 a1_1))))) = some r := h
  clear h
  replace H := Option.bind_eq_some_iff.mp H
  obtain ⟨t262, A40, H⟩ := H
  replace H : (if (l0.length : Int) > 200 then (some true) else ((beat_Set.f l0 a1_0 a1_1).bind fun t263 => ((beat_Drop.f t263 a1_1).bind fun t266 => (interchangelaw12_BeatSets.l0 k l0 a2 true t263 t266 0 0 0 0 a1_0 a1_1)))) = some r := H
  obtain rfl : true = t262 := Option.some.inj (interchangelaw12_shown_true.symm.trans A40)
  have A4 := Aside0.mk A40
  clear A40
  by_cases c5 : (l0.length : Int) > 200
  · rw [if_pos c5] at H
    have c5b0 : decide (200 < (l0.length : Int)) = true := decide_eq_true c5
    have c5b1 : decide (200 < l0.length) = true := decide_eq_true (by omega)
    clear c5
    obtain rfl := Option.some.inj H
    go_enter Try.func5, Try.ntmps5
    go_wp2_with (first | ((with_reducible refine gate_dst (N := 4) rfl ?_); (try (refine gate_guard (by rfl) ?_; dsimp only)); refine box_event ?hg (N := 4) ?hd (cs := #[.int .i64 a1_0, .int .i64 a1_1]) (t := 24) ?hr ?_; (case hd => rfl); (case hg => rfl); (case hr => first | (go_simp; done) | (go_simp; rfl)); intro gb261 hg w6 hbox hb; have n0_ := Aside0.mk (below_step (by repeat (first | (with_reducible first | exact HB.out | apply below_alloc | apply pw_below_drewN | apply below_drew1) | exact HB.out)) hb); have n1_ := Aside0.mk (hbox); have n2_ := Aside0.mk ((by rw [hg]; exact (below_size (by repeat (first | (with_reducible first | exact HB.out | apply below_alloc | apply pw_below_drewN | apply below_drew1) | exact HB.out))) : w.heap.size ≤ gb261)); have n3_ := Aside0.mk ((by rw [hg]; exact (below_size (by repeat (first | (with_reducible first | exact HB.out | apply below_alloc | apply pw_below_drewN | apply below_drew1) | exact HB.out))) : w.heap.size ≤ gb261)); clear HB; have HB := n0_; have BK261 := n1_; have GW261 := n2_; have GE261 := n3_; clear n0_ n1_ n2_ n3_; clear hb hbox hg) | (go_at_call 10; (with_reducible refine (interchangelaw12_shown.calls true _ ⟨rfl⟩ A4.out).mono ?_); rintro e w7 ⟨rfl, hb⟩; have n0_ := Aside0.mk (blk_below (g := gb261) (o := .cells #[.int .i64 a1_0, .int .i64 a1_1] 24 (0, 0)) (by (with_reducible repeat (first | refine blk_drewN ?_ _ | refine blk_drew ?_ | refine blk_alloc ?_ _)); exact BK261.out) hb); have n1_ := Aside0.mk (below_step (by repeat (first | (with_reducible first | exact HB.out | apply below_alloc | apply pw_below_drewN | apply below_drew1 | refine below_set ?_ GE261.out) | exact HB.out)) hb); clear BK261; clear HB; have BK261 := n0_; have HB := n1_; clear n0_ n1_; (try clear hb); (try clear hb2); (try clear hk); (try clear hi)))
    repeat (go_quiet (first | ((with_reducible refine gate_dst (N := 4) rfl ?_); (try (refine gate_guard (by rfl) ?_; dsimp only)); refine box_event ?hg (N := 4) ?hd (cs := #[.int .i64 a1_0, .int .i64 a1_1]) (t := 24) ?hr ?_; (case hd => rfl); (case hg => rfl); (case hr => first | (go_simp; done) | (go_simp; rfl)); intro gb261 hg w6 hbox hb; have n0_ := Aside0.mk (below_step (by repeat (first | (with_reducible first | exact HB.out | apply below_alloc | apply pw_below_drewN | apply below_drew1) | exact HB.out)) hb); have n1_ := Aside0.mk (hbox); have n2_ := Aside0.mk ((by rw [hg]; exact (below_size (by repeat (first | (with_reducible first | exact HB.out | apply below_alloc | apply pw_below_drewN | apply below_drew1) | exact HB.out))) : w.heap.size ≤ gb261)); have n3_ := Aside0.mk ((by rw [hg]; exact (below_size (by repeat (first | (with_reducible first | exact HB.out | apply below_alloc | apply pw_below_drewN | apply below_drew1) | exact HB.out))) : w.heap.size ≤ gb261)); clear HB; have HB := n0_; have BK261 := n1_; have GW261 := n2_; have GE261 := n3_; clear n0_ n1_ n2_ n3_; clear hb hbox hg) | (go_at_call 10; (with_reducible refine (interchangelaw12_shown.calls true _ ⟨rfl⟩ A4.out).mono ?_); rintro e w7 ⟨rfl, hb⟩; have n0_ := Aside0.mk (blk_below (g := gb261) (o := .cells #[.int .i64 a1_0, .int .i64 a1_1] 24 (0, 0)) (by (with_reducible repeat (first | refine blk_drewN ?_ _ | refine blk_drew ?_ | refine blk_alloc ?_ _)); exact BK261.out) hb); have n1_ := Aside0.mk (below_step (by repeat (first | (with_reducible first | exact HB.out | apply below_alloc | apply pw_below_drewN | apply below_drew1 | refine below_set ?_ GE261.out) | exact HB.out)) hb); clear BK261; clear HB; have BK261 := n0_; have HB := n1_; clear n0_ n1_; (try clear hb); (try clear hb2); (try clear hk); (try clear hi))); try go_wp2_with (first | ((with_reducible refine gate_dst (N := 4) rfl ?_); (try (refine gate_guard (by rfl) ?_; dsimp only)); refine box_event ?hg (N := 4) ?hd (cs := #[.int .i64 a1_0, .int .i64 a1_1]) (t := 24) ?hr ?_; (case hd => rfl); (case hg => rfl); (case hr => first | (go_simp; done) | (go_simp; rfl)); intro gb261 hg w6 hbox hb; have n0_ := Aside0.mk (below_step (by repeat (first | (with_reducible first | exact HB.out | apply below_alloc | apply pw_below_drewN | apply below_drew1) | exact HB.out)) hb); have n1_ := Aside0.mk (hbox); have n2_ := Aside0.mk ((by rw [hg]; exact (below_size (by repeat (first | (with_reducible first | exact HB.out | apply below_alloc | apply pw_below_drewN | apply below_drew1) | exact HB.out))) : w.heap.size ≤ gb261)); have n3_ := Aside0.mk ((by rw [hg]; exact (below_size (by repeat (first | (with_reducible first | exact HB.out | apply below_alloc | apply pw_below_drewN | apply below_drew1) | exact HB.out))) : w.heap.size ≤ gb261)); clear HB; have HB := n0_; have BK261 := n1_; have GW261 := n2_; have GE261 := n3_; clear n0_ n1_ n2_ n3_; clear hb hbox hg) | (go_at_call 10; (with_reducible refine (interchangelaw12_shown.calls true _ ⟨rfl⟩ A4.out).mono ?_); rintro e w7 ⟨rfl, hb⟩; have n0_ := Aside0.mk (blk_below (g := gb261) (o := .cells #[.int .i64 a1_0, .int .i64 a1_1] 24 (0, 0)) (by (with_reducible repeat (first | refine blk_drewN ?_ _ | refine blk_drew ?_ | refine blk_alloc ?_ _)); exact BK261.out) hb); have n1_ := Aside0.mk (below_step (by repeat (first | (with_reducible first | exact HB.out | apply below_alloc | apply pw_below_drewN | apply below_drew1 | refine below_set ?_ GE261.out) | exact HB.out)) hb); clear BK261; clear HB; have BK261 := n0_; have HB := n1_; clear n0_ n1_; (try clear hb); (try clear hb2); (try clear hk); (try clear hi))))
    go_ret
    exact ⟨by first | rfl | (simp [errW_none, errW_some] <;> rfl) | (simp [*, errW_none, errW_some] <;> rfl) | (exfalso; simp only [decide_eq_true_eq, decide_eq_false_iff_not, beq_iff_eq, bne_iff_ne, ne_eq, beq_eq_false_iff_ne, bne_eq_false_iff_eq] at *; omega), by repeat (first | (with_reducible first | exact HB.out | apply below_alloc | apply pw_below_drewN | apply below_drew1 | refine below_set ?_ GE261.out) | exact HB.out)⟩
  · rw [if_neg c5] at H
    have c5b0 : decide (200 < (l0.length : Int)) = false := decide_eq_false c5
    have c5b1 : decide (200 < l0.length) = false := decide_eq_false (by omega)
    clear c5
    replace H := Option.bind_eq_some_iff.mp H
    obtain ⟨t263, A80, H⟩ := H
    replace H : ((beat_Drop.f t263 a1_1).bind fun t266 => (interchangelaw12_BeatSets.l0 k l0 a2 true t263 t266 0 0 0 0 a1_0 a1_1)) = some r := H
    have A8 := Aside0.mk A80
    clear A80
    replace H := Option.bind_eq_some_iff.mp H
    obtain ⟨t266, A90, H⟩ := H
    replace H : (interchangelaw12_BeatSets.l0 k l0 a2 true t263 t266 0 0 0 0 a1_0 a1_1) = some r := H
    have A9 := Aside0.mk A90
    clear A90
    have H' := Aside0.mk H
    clear H
    go_enter Try.func5, Try.ntmps5
    go_wp2_with (first | ((with_reducible refine gate_dst (N := 4) rfl ?_); (try (refine gate_guard (by rfl) ?_; dsimp only)); refine box_event ?hg (N := 4) ?hd (cs := #[.int .i64 a1_0, .int .i64 a1_1]) (t := 24) ?hr ?_; (case hd => rfl); (case hg => rfl); (case hr => first | (go_simp; done) | (go_simp; rfl)); intro gb261 hg w10 hbox hb; have n0_ := Aside0.mk (below_step (by repeat (first | (with_reducible first | exact HB.out | apply below_alloc | apply pw_below_drewN | apply below_drew1) | exact HB.out)) hb); have n1_ := Aside0.mk (hbox); have n2_ := Aside0.mk ((by rw [hg]; exact (below_size (by repeat (first | (with_reducible first | exact HB.out | apply below_alloc | apply pw_below_drewN | apply below_drew1) | exact HB.out))) : w.heap.size ≤ gb261)); have n3_ := Aside0.mk ((by rw [hg]; exact (below_size (by repeat (first | (with_reducible first | exact HB.out | apply below_alloc | apply pw_below_drewN | apply below_drew1) | exact HB.out))) : w.heap.size ≤ gb261)); clear HB; have HB := n0_; have BK261 := n1_; have GW261 := n2_; have GE261 := n3_; clear n0_ n1_ n2_ n3_; clear hb hbox hg) | (go_at_call 10; (with_reducible refine (interchangelaw12_shown.calls true _ ⟨rfl⟩ A4.out).mono ?_); rintro e w11 ⟨rfl, hb⟩; have n0_ := Aside0.mk (blk_below (g := gb261) (o := .cells #[.int .i64 a1_0, .int .i64 a1_1] 24 (0, 0)) (by (with_reducible repeat (first | refine blk_drewN ?_ _ | refine blk_drew ?_ | refine blk_alloc ?_ _)); exact BK261.out) hb); have n1_ := Aside0.mk (below_step (by repeat (first | (with_reducible first | exact HB.out | apply below_alloc | apply pw_below_drewN | apply below_drew1 | refine below_set ?_ GE261.out) | exact HB.out)) hb); clear BK261; clear HB; have BK261 := n0_; have HB := n1_; clear n0_ n1_; (try clear hb); (try clear hb2); (try clear hk); (try clear hi); have hcz12_0 : w11.cell? ⟨gb261, 0, none⟩ = some (.int .i64 a1_0) := (blk_cell BK261.out 0).trans rfl; have hcz12_1 : w11.cell? ⟨gb261, 1, none⟩ = some (.int .i64 a1_1) := (blk_cell BK261.out 1).trans rfl; have hfz12_0 := blk_frozen BK261.out 0; have hfz12_1 := blk_frozen BK261.out 1) | (go_at_call 16; (with_reducible refine (beat_Set.calls _ _ l0 a1_0 a1_1 t263 _ ?side1 ?side2 A8.out).mono ?_); (case side1 => repeat (first | exact (Kd.C_below HR0.out HB.out) | (with_reducible refine Kd.C_alloc ?_ _) | (with_reducible refine Kd.C_drewN ?_ _) | (with_reducible refine Kd.C_drew ?_))); (case side2 => exact HC0.out); rintro e w13 ⟨v264, rfl, ho0, hb⟩; have n0_ := Aside0.mk (Kd.R_lower (Kd.R_newB ho0 (g := gb261) (o := .cells #[.int .i64 a1_0, .int .i64 a1_1] 24 (0, 0)) (by (with_reducible repeat (first | refine blk_drewN ?_ _ | refine blk_drew ?_ | refine blk_alloc ?_ _)); exact BK261.out)) (below_size (by repeat (first | (with_reducible first | exact HB.out | apply below_alloc | apply pw_below_drewN | apply below_drew1 | refine below_set ?_ GE261.out) | exact HB.out)))); have n1_ := Aside0.mk (blk_below (g := gb261) (o := .cells #[.int .i64 a1_0, .int .i64 a1_1] 24 (0, 0)) (by (with_reducible repeat (first | refine blk_drewN ?_ _ | refine blk_drew ?_ | refine blk_alloc ?_ _)); exact BK261.out) hb); have n2_ := Aside0.mk (below_step (by repeat (first | (with_reducible first | exact HB.out | apply below_alloc | apply pw_below_drewN | apply below_drew1 | refine below_set ?_ GE261.out) | exact HB.out)) hb); clear BK261; clear HB; have HO265 := n0_; have BK261 := n1_; have HB := n2_; clear n0_ n1_ n2_; (try clear hb); (try clear hb2); (try clear hk); (try clear hi); (try clear ho0); have hcz14_0 : w13.cell? ⟨gb261, 0, none⟩ = some (.int .i64 a1_0) := (blk_cell BK261.out 0).trans rfl; have hcz14_1 : w13.cell? ⟨gb261, 1, none⟩ = some (.int .i64 a1_1) := (blk_cell BK261.out 1).trans rfl; have hfz14_0 := blk_frozen BK261.out 0; have hfz14_1 := blk_frozen BK261.out 1; obtain ⟨Ao15, co15, eo15⟩ := Kd.R_slice HO265.out; subst eo15) | (go_at_call 18; (with_reducible refine (beat_Drop.calls _ _ t263 a1_1 t266 _ ?side1 ?side2 A9.out).mono ?_); (case side1 => repeat (first | exact (Kd.R_reads' HO265.out).2.2 | (with_reducible refine Kd.C_alloc ?_ _) | (with_reducible refine Kd.C_drewN ?_ _) | (with_reducible refine Kd.C_drew ?_))); (case side2 => exact (Kd.R_reads' HO265.out).2.1); rintro e w16 ⟨v267, rfl, ho0, hb⟩; have n0_ := Aside0.mk (Kd.R_elder' (by (with_reducible repeat (first | apply Kd.R_alloc | apply Kd.R_drewN | apply Kd.R_drew)); exact HO265.out) (Kd.R_base ho0) hb); have n1_ := Aside0.mk (Kd.R_lower (Kd.R_newB (Kd.R_new' ho0 (Kd.R_lt (by (with_reducible repeat (first | apply Kd.R_alloc | apply Kd.R_drewN | apply Kd.R_drew)); exact HO265.out))) (g := gb261) (o := .cells #[.int .i64 a1_0, .int .i64 a1_1] 24 (0, 0)) (by (with_reducible repeat (first | refine blk_drewN ?_ _ | refine blk_drew ?_ | refine blk_alloc ?_ _)); exact BK261.out)) (below_size (by repeat (first | (with_reducible first | exact HB.out | apply below_alloc | apply pw_below_drewN | apply below_drew1 | refine below_set ?_ GE261.out) | exact HB.out)))); have n2_ := Aside0.mk (blk_below (g := gb261) (o := .cells #[.int .i64 a1_0, .int .i64 a1_1] 24 (0, 0)) (by (with_reducible repeat (first | refine blk_drewN ?_ _ | refine blk_drew ?_ | refine blk_alloc ?_ _)); exact BK261.out) hb); have n3_ := Aside0.mk (below_step (by repeat (first | (with_reducible first | exact HB.out | apply below_alloc | apply pw_below_drewN | apply below_drew1 | refine below_set ?_ GE261.out) | exact HB.out)) hb); clear HO265; clear BK261; clear HB; have HO265 := n0_; have HO268 := n1_; have BK261 := n2_; have HB := n3_; clear n0_ n1_ n2_ n3_; (try clear hb); (try clear hb2); (try clear hk); (try clear hi); (try clear ho0)))
    repeat (go_quiet (first | ((with_reducible refine gate_dst (N := 4) rfl ?_); (try (refine gate_guard (by rfl) ?_; dsimp only)); refine box_event ?hg (N := 4) ?hd (cs := #[.int .i64 a1_0, .int .i64 a1_1]) (t := 24) ?hr ?_; (case hd => rfl); (case hg => rfl); (case hr => first | (go_simp; done) | (go_simp; rfl)); intro gb261 hg w10 hbox hb; have n0_ := Aside0.mk (below_step (by repeat (first | (with_reducible first | exact HB.out | apply below_alloc | apply pw_below_drewN | apply below_drew1) | exact HB.out)) hb); have n1_ := Aside0.mk (hbox); have n2_ := Aside0.mk ((by rw [hg]; exact (below_size (by repeat (first | (with_reducible first | exact HB.out | apply below_alloc | apply pw_below_drewN | apply below_drew1) | exact HB.out))) : w.heap.size ≤ gb261)); have n3_ := Aside0.mk ((by rw [hg]; exact (below_size (by repeat (first | (with_reducible first | exact HB.out | apply below_alloc | apply pw_below_drewN | apply below_drew1) | exact HB.out))) : w.heap.size ≤ gb261)); clear HB; have HB := n0_; have BK261 := n1_; have GW261 := n2_; have GE261 := n3_; clear n0_ n1_ n2_ n3_; clear hb hbox hg) | (go_at_call 10; (with_reducible refine (interchangelaw12_shown.calls true _ ⟨rfl⟩ A4.out).mono ?_); rintro e w11 ⟨rfl, hb⟩; have n0_ := Aside0.mk (blk_below (g := gb261) (o := .cells #[.int .i64 a1_0, .int .i64 a1_1] 24 (0, 0)) (by (with_reducible repeat (first | refine blk_drewN ?_ _ | refine blk_drew ?_ | refine blk_alloc ?_ _)); exact BK261.out) hb); have n1_ := Aside0.mk (below_step (by repeat (first | (with_reducible first | exact HB.out | apply below_alloc | apply pw_below_drewN | apply below_drew1 | refine below_set ?_ GE261.out) | exact HB.out)) hb); clear BK261; clear HB; have BK261 := n0_; have HB := n1_; clear n0_ n1_; (try clear hb); (try clear hb2); (try clear hk); (try clear hi); have hcz12_0 : w11.cell? ⟨gb261, 0, none⟩ = some (.int .i64 a1_0) := (blk_cell BK261.out 0).trans rfl; have hcz12_1 : w11.cell? ⟨gb261, 1, none⟩ = some (.int .i64 a1_1) := (blk_cell BK261.out 1).trans rfl; have hfz12_0 := blk_frozen BK261.out 0; have hfz12_1 := blk_frozen BK261.out 1) | (go_at_call 16; (with_reducible refine (beat_Set.calls _ _ l0 a1_0 a1_1 t263 _ ?side1 ?side2 A8.out).mono ?_); (case side1 => repeat (first | exact (Kd.C_below HR0.out HB.out) | (with_reducible refine Kd.C_alloc ?_ _) | (with_reducible refine Kd.C_drewN ?_ _) | (with_reducible refine Kd.C_drew ?_))); (case side2 => exact HC0.out); rintro e w13 ⟨v264, rfl, ho0, hb⟩; have n0_ := Aside0.mk (Kd.R_lower (Kd.R_newB ho0 (g := gb261) (o := .cells #[.int .i64 a1_0, .int .i64 a1_1] 24 (0, 0)) (by (with_reducible repeat (first | refine blk_drewN ?_ _ | refine blk_drew ?_ | refine blk_alloc ?_ _)); exact BK261.out)) (below_size (by repeat (first | (with_reducible first | exact HB.out | apply below_alloc | apply pw_below_drewN | apply below_drew1 | refine below_set ?_ GE261.out) | exact HB.out)))); have n1_ := Aside0.mk (blk_below (g := gb261) (o := .cells #[.int .i64 a1_0, .int .i64 a1_1] 24 (0, 0)) (by (with_reducible repeat (first | refine blk_drewN ?_ _ | refine blk_drew ?_ | refine blk_alloc ?_ _)); exact BK261.out) hb); have n2_ := Aside0.mk (below_step (by repeat (first | (with_reducible first | exact HB.out | apply below_alloc | apply pw_below_drewN | apply below_drew1 | refine below_set ?_ GE261.out) | exact HB.out)) hb); clear BK261; clear HB; have HO265 := n0_; have BK261 := n1_; have HB := n2_; clear n0_ n1_ n2_; (try clear hb); (try clear hb2); (try clear hk); (try clear hi); (try clear ho0); have hcz14_0 : w13.cell? ⟨gb261, 0, none⟩ = some (.int .i64 a1_0) := (blk_cell BK261.out 0).trans rfl; have hcz14_1 : w13.cell? ⟨gb261, 1, none⟩ = some (.int .i64 a1_1) := (blk_cell BK261.out 1).trans rfl; have hfz14_0 := blk_frozen BK261.out 0; have hfz14_1 := blk_frozen BK261.out 1; obtain ⟨Ao15, co15, eo15⟩ := Kd.R_slice HO265.out; subst eo15) | (go_at_call 18; (with_reducible refine (beat_Drop.calls _ _ t263 a1_1 t266 _ ?side1 ?side2 A9.out).mono ?_); (case side1 => repeat (first | exact (Kd.R_reads' HO265.out).2.2 | (with_reducible refine Kd.C_alloc ?_ _) | (with_reducible refine Kd.C_drewN ?_ _) | (with_reducible refine Kd.C_drew ?_))); (case side2 => exact (Kd.R_reads' HO265.out).2.1); rintro e w16 ⟨v267, rfl, ho0, hb⟩; have n0_ := Aside0.mk (Kd.R_elder' (by (with_reducible repeat (first | apply Kd.R_alloc | apply Kd.R_drewN | apply Kd.R_drew)); exact HO265.out) (Kd.R_base ho0) hb); have n1_ := Aside0.mk (Kd.R_lower (Kd.R_newB (Kd.R_new' ho0 (Kd.R_lt (by (with_reducible repeat (first | apply Kd.R_alloc | apply Kd.R_drewN | apply Kd.R_drew)); exact HO265.out))) (g := gb261) (o := .cells #[.int .i64 a1_0, .int .i64 a1_1] 24 (0, 0)) (by (with_reducible repeat (first | refine blk_drewN ?_ _ | refine blk_drew ?_ | refine blk_alloc ?_ _)); exact BK261.out)) (below_size (by repeat (first | (with_reducible first | exact HB.out | apply below_alloc | apply pw_below_drewN | apply below_drew1 | refine below_set ?_ GE261.out) | exact HB.out)))); have n2_ := Aside0.mk (blk_below (g := gb261) (o := .cells #[.int .i64 a1_0, .int .i64 a1_1] 24 (0, 0)) (by (with_reducible repeat (first | refine blk_drewN ?_ _ | refine blk_drew ?_ | refine blk_alloc ?_ _)); exact BK261.out) hb); have n3_ := Aside0.mk (below_step (by repeat (first | (with_reducible first | exact HB.out | apply below_alloc | apply pw_below_drewN | apply below_drew1 | refine below_set ?_ GE261.out) | exact HB.out)) hb); clear HO265; clear BK261; clear HB; have HO265 := n0_; have HO268 := n1_; have BK261 := n2_; have HB := n3_; clear n0_ n1_ n2_ n3_; (try clear hb); (try clear hb2); (try clear hk); (try clear hi); (try clear ho0))); try go_wp2_with (first | ((with_reducible refine gate_dst (N := 4) rfl ?_); (try (refine gate_guard (by rfl) ?_; dsimp only)); refine box_event ?hg (N := 4) ?hd (cs := #[.int .i64 a1_0, .int .i64 a1_1]) (t := 24) ?hr ?_; (case hd => rfl); (case hg => rfl); (case hr => first | (go_simp; done) | (go_simp; rfl)); intro gb261 hg w10 hbox hb; have n0_ := Aside0.mk (below_step (by repeat (first | (with_reducible first | exact HB.out | apply below_alloc | apply pw_below_drewN | apply below_drew1) | exact HB.out)) hb); have n1_ := Aside0.mk (hbox); have n2_ := Aside0.mk ((by rw [hg]; exact (below_size (by repeat (first | (with_reducible first | exact HB.out | apply below_alloc | apply pw_below_drewN | apply below_drew1) | exact HB.out))) : w.heap.size ≤ gb261)); have n3_ := Aside0.mk ((by rw [hg]; exact (below_size (by repeat (first | (with_reducible first | exact HB.out | apply below_alloc | apply pw_below_drewN | apply below_drew1) | exact HB.out))) : w.heap.size ≤ gb261)); clear HB; have HB := n0_; have BK261 := n1_; have GW261 := n2_; have GE261 := n3_; clear n0_ n1_ n2_ n3_; clear hb hbox hg) | (go_at_call 10; (with_reducible refine (interchangelaw12_shown.calls true _ ⟨rfl⟩ A4.out).mono ?_); rintro e w11 ⟨rfl, hb⟩; have n0_ := Aside0.mk (blk_below (g := gb261) (o := .cells #[.int .i64 a1_0, .int .i64 a1_1] 24 (0, 0)) (by (with_reducible repeat (first | refine blk_drewN ?_ _ | refine blk_drew ?_ | refine blk_alloc ?_ _)); exact BK261.out) hb); have n1_ := Aside0.mk (below_step (by repeat (first | (with_reducible first | exact HB.out | apply below_alloc | apply pw_below_drewN | apply below_drew1 | refine below_set ?_ GE261.out) | exact HB.out)) hb); clear BK261; clear HB; have BK261 := n0_; have HB := n1_; clear n0_ n1_; (try clear hb); (try clear hb2); (try clear hk); (try clear hi); have hcz12_0 : w11.cell? ⟨gb261, 0, none⟩ = some (.int .i64 a1_0) := (blk_cell BK261.out 0).trans rfl; have hcz12_1 : w11.cell? ⟨gb261, 1, none⟩ = some (.int .i64 a1_1) := (blk_cell BK261.out 1).trans rfl; have hfz12_0 := blk_frozen BK261.out 0; have hfz12_1 := blk_frozen BK261.out 1) | (go_at_call 16; (with_reducible refine (beat_Set.calls _ _ l0 a1_0 a1_1 t263 _ ?side1 ?side2 A8.out).mono ?_); (case side1 => repeat (first | exact (Kd.C_below HR0.out HB.out) | (with_reducible refine Kd.C_alloc ?_ _) | (with_reducible refine Kd.C_drewN ?_ _) | (with_reducible refine Kd.C_drew ?_))); (case side2 => exact HC0.out); rintro e w13 ⟨v264, rfl, ho0, hb⟩; have n0_ := Aside0.mk (Kd.R_lower (Kd.R_newB ho0 (g := gb261) (o := .cells #[.int .i64 a1_0, .int .i64 a1_1] 24 (0, 0)) (by (with_reducible repeat (first | refine blk_drewN ?_ _ | refine blk_drew ?_ | refine blk_alloc ?_ _)); exact BK261.out)) (below_size (by repeat (first | (with_reducible first | exact HB.out | apply below_alloc | apply pw_below_drewN | apply below_drew1 | refine below_set ?_ GE261.out) | exact HB.out)))); have n1_ := Aside0.mk (blk_below (g := gb261) (o := .cells #[.int .i64 a1_0, .int .i64 a1_1] 24 (0, 0)) (by (with_reducible repeat (first | refine blk_drewN ?_ _ | refine blk_drew ?_ | refine blk_alloc ?_ _)); exact BK261.out) hb); have n2_ := Aside0.mk (below_step (by repeat (first | (with_reducible first | exact HB.out | apply below_alloc | apply pw_below_drewN | apply below_drew1 | refine below_set ?_ GE261.out) | exact HB.out)) hb); clear BK261; clear HB; have HO265 := n0_; have BK261 := n1_; have HB := n2_; clear n0_ n1_ n2_; (try clear hb); (try clear hb2); (try clear hk); (try clear hi); (try clear ho0); have hcz14_0 : w13.cell? ⟨gb261, 0, none⟩ = some (.int .i64 a1_0) := (blk_cell BK261.out 0).trans rfl; have hcz14_1 : w13.cell? ⟨gb261, 1, none⟩ = some (.int .i64 a1_1) := (blk_cell BK261.out 1).trans rfl; have hfz14_0 := blk_frozen BK261.out 0; have hfz14_1 := blk_frozen BK261.out 1; obtain ⟨Ao15, co15, eo15⟩ := Kd.R_slice HO265.out; subst eo15) | (go_at_call 18; (with_reducible refine (beat_Drop.calls _ _ t263 a1_1 t266 _ ?side1 ?side2 A9.out).mono ?_); (case side1 => repeat (first | exact (Kd.R_reads' HO265.out).2.2 | (with_reducible refine Kd.C_alloc ?_ _) | (with_reducible refine Kd.C_drewN ?_ _) | (with_reducible refine Kd.C_drew ?_))); (case side2 => exact (Kd.R_reads' HO265.out).2.1); rintro e w16 ⟨v267, rfl, ho0, hb⟩; have n0_ := Aside0.mk (Kd.R_elder' (by (with_reducible repeat (first | apply Kd.R_alloc | apply Kd.R_drewN | apply Kd.R_drew)); exact HO265.out) (Kd.R_base ho0) hb); have n1_ := Aside0.mk (Kd.R_lower (Kd.R_newB (Kd.R_new' ho0 (Kd.R_lt (by (with_reducible repeat (first | apply Kd.R_alloc | apply Kd.R_drewN | apply Kd.R_drew)); exact HO265.out))) (g := gb261) (o := .cells #[.int .i64 a1_0, .int .i64 a1_1] 24 (0, 0)) (by (with_reducible repeat (first | refine blk_drewN ?_ _ | refine blk_drew ?_ | refine blk_alloc ?_ _)); exact BK261.out)) (below_size (by repeat (first | (with_reducible first | exact HB.out | apply below_alloc | apply pw_below_drewN | apply below_drew1 | refine below_set ?_ GE261.out) | exact HB.out)))); have n2_ := Aside0.mk (blk_below (g := gb261) (o := .cells #[.int .i64 a1_0, .int .i64 a1_1] 24 (0, 0)) (by (with_reducible repeat (first | refine blk_drewN ?_ _ | refine blk_drew ?_ | refine blk_alloc ?_ _)); exact BK261.out) hb); have n3_ := Aside0.mk (below_step (by repeat (first | (with_reducible first | exact HB.out | apply below_alloc | apply pw_below_drewN | apply below_drew1 | refine below_set ?_ GE261.out) | exact HB.out)) hb); clear HO265; clear BK261; clear HB; have HO265 := n0_; have HO268 := n1_; have BK261 := n2_; have HB := n3_; clear n0_ n1_ n2_ n3_; (try clear hb); (try clear hb2); (try clear hk); (try clear hi); (try clear ho0))))
    go_loopg [10, 11, 13] k (fun kq v10 v11 v13 w' => ∃ (x10_1 : Int) (x11_1 : Int) (x13_1 : Int), v10 = .int .i64 x10_1 ∧ v11 = .int .i64 x11_1 ∧ v13 = .int .i64 x13_1 ∧ Aside0 (interchangelaw12_BeatSets.l0 kq l0 a2 true t263 t266 x10_1 x11_1 0 x13_1 a1_0 a1_1 = some r) ∧ Aside0 (kq ≤ k) ∧ Aside0 (Kd.R k24 24 w' w.heap.size (fun k_ => some k_ ≠ (v267 : Value).ownBlock ∧ k_ ≠ gb261) (.slice Ao15 t263.length co15) t263) ∧ Aside0 (Kd.R k24 24 w' w.heap.size (fun k_ => some k_ ≠ ((.slice Ao15 t263.length co15) : Value).ownBlock ∧ k_ ≠ gb261) v267 t266) ∧ Aside0 (w'.heap[gb261]? = some (.cells #[.int .i64 a1_0, .int .i64 a1_1] 24 (0, 0))) ∧ Aside0 (Below w.heap.size w w'))
    case atStart => exact ⟨(0), (0), (0), (by first | rfl | (simp; done) | (simp [*]; done)), (by first | rfl | (simp; done) | (simp [*]; done)), (by first | rfl | (simp; done) | (simp [*]; done)), H', ⟨Nat.le_refl _⟩, ⟨by (with_reducible repeat (first | apply Kd.R_alloc | apply Kd.R_drewN | apply Kd.R_drew)); exact Kd.R_mono HO265.out (fun _ hk => ⟨hk.2, hk.1.2⟩)⟩, ⟨by (with_reducible repeat (first | apply Kd.R_alloc | apply Kd.R_drewN | apply Kd.R_drew)); exact Kd.R_mono HO268.out (fun _ hk => ⟨hk.1.2, hk.2⟩)⟩, ⟨by (with_reducible repeat (first | refine blk_drewN ?_ _ | refine blk_drew ?_ | refine blk_alloc ?_ _)); exact BK261.out⟩, ⟨by repeat (first | (with_reducible first | exact HB.out | apply below_alloc | apply pw_below_drewN | apply below_drew1 | refine below_set ?_ GE261.out) | exact HB.out)⟩⟩
    case round =>
      clear H'
      try clear p2
      try clear c5
      try clear c5b0
      try clear c5b1
      try clear hcz12_0
      try clear hcz12_1
      try clear hcz14_0
      try clear hcz14_1
      try clear hfz12_0
      try clear hfz12_1
      try clear hfz14_0
      try clear hfz14_1
      obtain ⟨x10_1, x11_1, x13_1, rfl, rfl, rfl, HA, HK1, HO_8, HO_9, BK261, HB⟩ := hrel
      cases gk with
      | zero => exact absurd HA.out (by simp [interchangelaw12_BeatSets.l0])
      | succ k1 =>
        have H := HA.out
        clear HA
        simp only [interchangelaw12_BeatSets.l0] at H
        by_cases c17 : x13_1 < (t263.length : Int)
        · rw [if_pos c17] at H
          have c17b0 : decide (x13_1 < (t263.length : Int)) = true := decide_eq_true c17
          clear c17
          by_cases c18 : 0 ≤ x13_1
          · rw [if_pos c18] at H
            have c18b0 : decide (0 ≤ x13_1) = true := decide_eq_true c18
            clear c18
            by_cases c19 : ((rd_T24 t263 x13_1).f1) = a1_1
            · rw [if_pos c19] at H
              have c19b0 : (((rd_T24 t263 x13_1).f1) == a1_1) = true := beq_iff_eq.mpr c19
              have c19b1 : (((rd_T24 t263 x13_1).f1) != a1_1) = false := bne_eq_false_iff_eq.mpr c19
              clear c19
              by_cases c20 : (!(((rd_T24 t263 x13_1).f0) == a1_0) || (!(((rd_T24 t263 x13_1).f1) == a1_1))) = true
              · rw [if_pos c20] at H
                exact absurd ((Option.some.inj H).trans hT_.out) (by decide)
              · rw [if_neg c20] at H
                have c20b0 : (!(((rd_T24 t263 x13_1).f0) == a1_0) || (!(((rd_T24 t263 x13_1).f1) == a1_1))) = false := by simpa using c20
                have c20c : (((rd_T24 t263 x13_1).f0) == a1_0) = true := by rw [c19b0] at c20b0; revert c20b0; cases (((rd_T24 t263 x13_1).f0) == a1_0) <;> simp
                clear c20
                by_cases c21 : ((rd_T24 t263 x13_1).f1) = a2
                · rw [if_pos c21] at H
                  have c21b0 : (((rd_T24 t263 x13_1).f1) == a2) = true := beq_iff_eq.mpr c21
                  have c21b1 : (((rd_T24 t263 x13_1).f1) != a2) = false := bne_eq_false_iff_eq.mpr c21
                  clear c21
                  have H' := Aside0.mk H
                  clear H
                  have p269 : 0 ≤ (x13_1 : Int) := of_decide_eq_true (by first | (with_reducible assumption) | assumption)
                  have q269 : x13_1 < (t263.length : Int) := of_decide_eq_true (by first | (with_reducible assumption) | assumption)
                  obtain ⟨ad269, e269, hx269_0, hx269_1⟩ := at_T24 (Kd.R_reads' HO_8.out).2.2 x13_1 p269 q269
                  cases e269
                  replace p269 := eq_true p269
                  replace q269 := eq_true q269
                  have hcz22_0 : wr.cell? ⟨gb261, 0, none⟩ = some (.int .i64 a1_0) := (blk_cell BK261.out 0).trans rfl
                  have hcz22_1 : wr.cell? ⟨gb261, 1, none⟩ = some (.int .i64 a1_1) := (blk_cell BK261.out 1).trans rfl
                  have hfz22_0 := blk_frozen BK261.out 0
                  have hfz22_1 := blk_frozen BK261.out 1
                  have p270 : 0 ≤ (x13_1 : Int) := of_decide_eq_true (by first | (with_reducible assumption) | assumption)
                  have q270 : x13_1 < (t263.length : Int) := of_decide_eq_true (by first | (with_reducible assumption) | assumption)
                  obtain ⟨ad270, e270, hx270_0, hx270_1⟩ := at_T24 (Kd.R_reads' HO_8.out).2.2 x13_1 p270 q270
                  obtain rfl : ad269 = ad270 := (by injection e270)
                  replace p270 := eq_true p270
                  replace q270 := eq_true q270
                  have p271 : 0 ≤ (x13_1 : Int) := of_decide_eq_true (by first | (with_reducible assumption) | assumption)
                  have q271 : x13_1 < (t263.length : Int) := of_decide_eq_true (by first | (with_reducible assumption) | assumption)
                  obtain ⟨ad271, e271, hx271_0, hx271_1⟩ := at_T24 (Kd.R_reads' HO_8.out).2.2 x13_1 p271 q271
                  obtain rfl : ad269 = ad271 := (by injection e271)
                  replace p271 := eq_true p271
                  replace q271 := eq_true q271
                  go_wp2
                  repeat (go_quiet (fail); try go_wp2)
                  go_roundg k1
                  case measure => have := HK1.out; omega
                  case rel => exact ⟨(wrap64 (x10_1 + 1)), (wrap64 (x11_1 + 1)), (wrap64 (x13_1 + 1)), (by first | rfl | (simp; done) | (simp [*]; done)), (by first | rfl | (simp; done) | (simp [*]; done)), (by first | rfl | (simp; done) | (simp [*]; done)), H', ⟨by have := HK1.out; omega⟩, ⟨by (with_reducible repeat (first | apply Kd.R_alloc | apply Kd.R_drewN | apply Kd.R_drew)); exact HO_8.out⟩, ⟨by (with_reducible repeat (first | apply Kd.R_alloc | apply Kd.R_drewN | apply Kd.R_drew)); exact HO_9.out⟩, ⟨by (with_reducible repeat (first | refine blk_drewN ?_ _ | refine blk_drew ?_ | refine blk_alloc ?_ _)); exact BK261.out⟩, ⟨by repeat (first | (with_reducible first | exact HB.out | apply below_alloc | apply pw_below_drewN | apply below_drew1 | refine below_set ?_ GE261.out) | exact HB.out)⟩⟩
                · rw [if_neg c21] at H
                  have c21b0 : (((rd_T24 t263 x13_1).f1) == a2) = false := beq_eq_false_iff_ne.mpr c21
                  have c21b1 : (((rd_T24 t263 x13_1).f1) != a2) = true := bne_iff_ne.mpr c21
                  have H' := Aside0.mk H
                  clear H
                  have p269 : 0 ≤ (x13_1 : Int) := of_decide_eq_true (by first | (with_reducible assumption) | assumption)
                  have q269 : x13_1 < (t263.length : Int) := of_decide_eq_true (by first | (with_reducible assumption) | assumption)
                  obtain ⟨ad269, e269, hx269_0, hx269_1⟩ := at_T24 (Kd.R_reads' HO_8.out).2.2 x13_1 p269 q269
                  cases e269
                  replace p269 := eq_true p269
                  replace q269 := eq_true q269
                  have hcz23_0 : wr.cell? ⟨gb261, 0, none⟩ = some (.int .i64 a1_0) := (blk_cell BK261.out 0).trans rfl
                  have hcz23_1 : wr.cell? ⟨gb261, 1, none⟩ = some (.int .i64 a1_1) := (blk_cell BK261.out 1).trans rfl
                  have hfz23_0 := blk_frozen BK261.out 0
                  have hfz23_1 := blk_frozen BK261.out 1
                  have p270 : 0 ≤ (x13_1 : Int) := of_decide_eq_true (by first | (with_reducible assumption) | assumption)
                  have q270 : x13_1 < (t263.length : Int) := of_decide_eq_true (by first | (with_reducible assumption) | assumption)
                  obtain ⟨ad270, e270, hx270_0, hx270_1⟩ := at_T24 (Kd.R_reads' HO_8.out).2.2 x13_1 p270 q270
                  obtain rfl : ad269 = ad270 := (by injection e270)
                  replace p270 := eq_true p270
                  replace q270 := eq_true q270
                  have p271 : 0 ≤ (x13_1 : Int) := of_decide_eq_true (by first | (with_reducible assumption) | assumption)
                  have q271 : x13_1 < (t263.length : Int) := of_decide_eq_true (by first | (with_reducible assumption) | assumption)
                  obtain ⟨ad271, e271, hx271_0, hx271_1⟩ := at_T24 (Kd.R_reads' HO_8.out).2.2 x13_1 p271 q271
                  obtain rfl : ad269 = ad271 := (by injection e271)
                  replace p271 := eq_true p271
                  replace q271 := eq_true q271
                  go_wp2
                  repeat (go_quiet (fail); try go_wp2)
                  go_roundg k1
                  case measure => have := HK1.out; omega
                  case rel => exact ⟨(wrap64 (x10_1 + 1)), (x11_1), (wrap64 (x13_1 + 1)), (by first | rfl | (simp; done) | (simp [*]; done)), (by first | rfl | (simp; done) | (simp [*]; done)), (by first | rfl | (simp; done) | (simp [*]; done)), H', ⟨by have := HK1.out; omega⟩, ⟨by (with_reducible repeat (first | apply Kd.R_alloc | apply Kd.R_drewN | apply Kd.R_drew)); exact HO_8.out⟩, ⟨by (with_reducible repeat (first | apply Kd.R_alloc | apply Kd.R_drewN | apply Kd.R_drew)); exact HO_9.out⟩, ⟨by (with_reducible repeat (first | refine blk_drewN ?_ _ | refine blk_drew ?_ | refine blk_alloc ?_ _)); exact BK261.out⟩, ⟨by repeat (first | (with_reducible first | exact HB.out | apply below_alloc | apply pw_below_drewN | apply below_drew1 | refine below_set ?_ GE261.out) | exact HB.out)⟩⟩
            · rw [if_neg c19] at H
              have c19b0 : (((rd_T24 t263 x13_1).f1) == a1_1) = false := beq_eq_false_iff_ne.mpr c19
              have c19b1 : (((rd_T24 t263 x13_1).f1) != a1_1) = true := bne_iff_ne.mpr c19
              by_cases c24 : ((rd_T24 t263 x13_1).f1) = a2
              · rw [if_pos c24] at H
                have c24b0 : (((rd_T24 t263 x13_1).f1) == a2) = true := beq_iff_eq.mpr c24
                have c24b1 : (((rd_T24 t263 x13_1).f1) != a2) = false := bne_eq_false_iff_eq.mpr c24
                clear c24
                have H' := Aside0.mk H
                clear H
                have p269 : 0 ≤ (x13_1 : Int) := of_decide_eq_true (by first | (with_reducible assumption) | assumption)
                have q269 : x13_1 < (t263.length : Int) := of_decide_eq_true (by first | (with_reducible assumption) | assumption)
                obtain ⟨ad269, e269, hx269_0, hx269_1⟩ := at_T24 (Kd.R_reads' HO_8.out).2.2 x13_1 p269 q269
                cases e269
                replace p269 := eq_true p269
                replace q269 := eq_true q269
                have hcz25_0 : wr.cell? ⟨gb261, 0, none⟩ = some (.int .i64 a1_0) := (blk_cell BK261.out 0).trans rfl
                have hcz25_1 : wr.cell? ⟨gb261, 1, none⟩ = some (.int .i64 a1_1) := (blk_cell BK261.out 1).trans rfl
                have hfz25_0 := blk_frozen BK261.out 0
                have hfz25_1 := blk_frozen BK261.out 1
                have p272 : 0 ≤ (x13_1 : Int) := of_decide_eq_true (by first | (with_reducible assumption) | assumption)
                have q272 : x13_1 < (t263.length : Int) := of_decide_eq_true (by first | (with_reducible assumption) | assumption)
                obtain ⟨ad272, e272, hx272_0, hx272_1⟩ := at_T24 (Kd.R_reads' HO_8.out).2.2 x13_1 p272 q272
                obtain rfl : ad269 = ad272 := (by injection e272)
                replace p272 := eq_true p272
                replace q272 := eq_true q272
                go_wp2
                repeat (go_quiet (fail); try go_wp2)
                go_roundg k1
                case measure => have := HK1.out; omega
                case rel => exact ⟨(x10_1), (wrap64 (x11_1 + 1)), (wrap64 (x13_1 + 1)), (by first | rfl | (simp; done) | (simp [*]; done)), (by first | rfl | (simp; done) | (simp [*]; done)), (by first | rfl | (simp; done) | (simp [*]; done)), H', ⟨by have := HK1.out; omega⟩, ⟨by (with_reducible repeat (first | apply Kd.R_alloc | apply Kd.R_drewN | apply Kd.R_drew)); exact HO_8.out⟩, ⟨by (with_reducible repeat (first | apply Kd.R_alloc | apply Kd.R_drewN | apply Kd.R_drew)); exact HO_9.out⟩, ⟨by (with_reducible repeat (first | refine blk_drewN ?_ _ | refine blk_drew ?_ | refine blk_alloc ?_ _)); exact BK261.out⟩, ⟨by repeat (first | (with_reducible first | exact HB.out | apply below_alloc | apply pw_below_drewN | apply below_drew1 | refine below_set ?_ GE261.out) | exact HB.out)⟩⟩
              · rw [if_neg c24] at H
                have c24b0 : (((rd_T24 t263 x13_1).f1) == a2) = false := beq_eq_false_iff_ne.mpr c24
                have c24b1 : (((rd_T24 t263 x13_1).f1) != a2) = true := bne_iff_ne.mpr c24
                have H' := Aside0.mk H
                clear H
                have p269 : 0 ≤ (x13_1 : Int) := of_decide_eq_true (by first | (with_reducible assumption) | assumption)
                have q269 : x13_1 < (t263.length : Int) := of_decide_eq_true (by first | (with_reducible assumption) | assumption)
                obtain ⟨ad269, e269, hx269_0, hx269_1⟩ := at_T24 (Kd.R_reads' HO_8.out).2.2 x13_1 p269 q269
                cases e269
                replace p269 := eq_true p269
                replace q269 := eq_true q269
                have hcz26_0 : wr.cell? ⟨gb261, 0, none⟩ = some (.int .i64 a1_0) := (blk_cell BK261.out 0).trans rfl
                have hcz26_1 : wr.cell? ⟨gb261, 1, none⟩ = some (.int .i64 a1_1) := (blk_cell BK261.out 1).trans rfl
                have hfz26_0 := blk_frozen BK261.out 0
                have hfz26_1 := blk_frozen BK261.out 1
                have p272 : 0 ≤ (x13_1 : Int) := of_decide_eq_true (by first | (with_reducible assumption) | assumption)
                have q272 : x13_1 < (t263.length : Int) := of_decide_eq_true (by first | (with_reducible assumption) | assumption)
                obtain ⟨ad272, e272, hx272_0, hx272_1⟩ := at_T24 (Kd.R_reads' HO_8.out).2.2 x13_1 p272 q272
                obtain rfl : ad269 = ad272 := (by injection e272)
                replace p272 := eq_true p272
                replace q272 := eq_true q272
                go_wp2
                repeat (go_quiet (fail); try go_wp2)
                go_roundg k1
                case measure => have := HK1.out; omega
                case rel => exact ⟨(x10_1), (x11_1), (wrap64 (x13_1 + 1)), (by first | rfl | (simp; done) | (simp [*]; done)), (by first | rfl | (simp; done) | (simp [*]; done)), (by first | rfl | (simp; done) | (simp [*]; done)), H', ⟨by have := HK1.out; omega⟩, ⟨by (with_reducible repeat (first | apply Kd.R_alloc | apply Kd.R_drewN | apply Kd.R_drew)); exact HO_8.out⟩, ⟨by (with_reducible repeat (first | apply Kd.R_alloc | apply Kd.R_drewN | apply Kd.R_drew)); exact HO_9.out⟩, ⟨by (with_reducible repeat (first | refine blk_drewN ?_ _ | refine blk_drew ?_ | refine blk_alloc ?_ _)); exact BK261.out⟩, ⟨by repeat (first | (with_reducible first | exact HB.out | apply below_alloc | apply pw_below_drewN | apply below_drew1 | refine below_set ?_ GE261.out) | exact HB.out)⟩⟩
          · rw [if_neg c18] at H
            exact absurd H (by simp)
        · rw [if_neg c17] at H
          have c17b0 : decide (x13_1 < (t263.length : Int)) = false := decide_eq_false c17
          clear c17
          have H' := Aside0.mk H
          clear H
          go_wp2
          repeat (go_quiet (fail); try go_wp2)
          go_loopg [12, 14] k1 (fun kq v12 v14 w' => ∃ (x12_2 : Int) (x14_2 : Int), v12 = .int .i64 x12_2 ∧ v14 = .int .i64 x14_2 ∧ Aside0 (interchangelaw12_BeatSets.l1 kq l0 a2 true t263 t266 x10_1 x11_1 x12_2 x14_2 a1_0 a1_1 = some r) ∧ Aside0 (kq ≤ k1) ∧ Aside0 (Kd.R k24 24 w' w.heap.size (fun k_ => some k_ ≠ (v267 : Value).ownBlock ∧ k_ ≠ gb261) (.slice Ao15 t263.length co15) t263) ∧ Aside0 (Kd.R k24 24 w' w.heap.size (fun k_ => some k_ ≠ ((.slice Ao15 t263.length co15) : Value).ownBlock ∧ k_ ≠ gb261) v267 t266) ∧ Aside0 (w'.heap[gb261]? = some (.cells #[.int .i64 a1_0, .int .i64 a1_1] 24 (0, 0))) ∧ Aside0 (Below w.heap.size w w'))
          case atStart => exact ⟨(0), (0), (by first | rfl | (simp; done) | (simp [*]; done)), (by first | rfl | (simp; done) | (simp [*]; done)), H', ⟨Nat.le_refl _⟩, ⟨by (with_reducible repeat (first | apply Kd.R_alloc | apply Kd.R_drewN | apply Kd.R_drew)); exact HO_8.out⟩, ⟨by (with_reducible repeat (first | apply Kd.R_alloc | apply Kd.R_drewN | apply Kd.R_drew)); exact HO_9.out⟩, ⟨by (with_reducible repeat (first | refine blk_drewN ?_ _ | refine blk_drew ?_ | refine blk_alloc ?_ _)); exact BK261.out⟩, ⟨by repeat (first | (with_reducible first | exact HB.out | apply below_alloc | apply pw_below_drewN | apply below_drew1 | refine below_set ?_ GE261.out) | exact HB.out)⟩⟩
          case round =>
            clear H'
            try clear c1
            try clear c2
            try clear p2
            try clear q2
            try clear hx2
            try clear c5
            try clear c5b0
            try clear c5b1
            try clear p6
            try clear c17
            try clear c17b0
            try clear c18
            try clear c18b0
            try clear c19
            try clear c19b0
            try clear c19b1
            try clear c20
            try clear c20b0
            try clear c21
            try clear c21b0
            try clear c21b1
            try clear c24
            try clear c24b0
            try clear c24b1
            try clear p26
            try clear q26
            try clear hx26
            try clear hcz12_0
            try clear hcz12_1
            try clear hcz14_0
            try clear hcz14_1
            try clear hcz22_0
            try clear hcz22_1
            try clear hcz23_0
            try clear hcz23_1
            try clear hcz25_0
            try clear hcz25_1
            try clear hcz26_0
            try clear hcz26_1
            try clear hfz12_0
            try clear hfz12_1
            try clear hfz14_0
            try clear hfz14_1
            try clear hfz22_0
            try clear hfz22_1
            try clear hfz23_0
            try clear hfz23_1
            try clear hfz25_0
            try clear hfz25_1
            try clear hfz26_0
            try clear hfz26_1
            try clear hx269_0
            try clear hx269_1
            try clear hx270_0
            try clear hx270_1
            try clear hx271_0
            try clear hx271_1
            try clear hx272_0
            try clear hx272_1
            try clear p2
            try clear p269
            try clear p270
            try clear p271
            try clear p272
            try clear q269
            try clear q270
            try clear q271
            try clear q272
            obtain ⟨x12_2, x14_2, rfl, rfl, HA, HK2, HO_8, HO_9, BK261, HB⟩ := hrel
            cases gk with
            | zero => exact absurd HA.out (by simp [interchangelaw12_BeatSets.l1])
            | succ k2 =>
              have H := HA.out
              clear HA
              simp only [interchangelaw12_BeatSets.l1] at H
              by_cases c27 : x14_2 < (l0.length : Int)
              · rw [if_pos c27] at H
                have c27b0 : decide (x14_2 < (l0.length : Int)) = true := decide_eq_true c27
                clear c27
                by_cases c28 : 0 ≤ x14_2
                · rw [if_pos c28] at H
                  have c28b0 : decide (0 ≤ x14_2) = true := decide_eq_true c28
                  clear c28
                  by_cases c29 : ((rd_T24 l0 x14_2).f1) = a2
                  · rw [if_pos c29] at H
                    have c29b0 : (((rd_T24 l0 x14_2).f1) == a2) = true := beq_iff_eq.mpr c29
                    have c29b1 : (((rd_T24 l0 x14_2).f1) != a2) = false := bne_eq_false_iff_eq.mpr c29
                    clear c29
                    have H' := Aside0.mk H
                    clear H
                    have p273 : 0 ≤ (x14_2 : Int) := of_decide_eq_true (by first | (with_reducible assumption) | assumption)
                    have q273 : x14_2 < (l0.length : Int) := of_decide_eq_true (by first | (with_reducible assumption) | assumption)
                    obtain ⟨ad273, e273, hx273_0, hx273_1⟩ := at_T24 HR0.out x14_2 p273 q273
                    cases e273
                    replace hx273_0 := (HB.out.cell (World.block_lt_of_cell? w _ hx273_0)).trans hx273_0
                    replace hx273_1 := (HB.out.cell (World.block_lt_of_cell? w _ hx273_1)).trans hx273_1
                    replace p273 := eq_true p273
                    replace q273 := eq_true q273
                    go_wp2
                    repeat (go_quiet (fail); try go_wp2)
                    go_roundg k2
                    case measure => have := HK1.out; have := HK2.out; omega
                    case rel => exact ⟨(wrap64 (x12_2 + 1)), (wrap64 (x14_2 + 1)), (by first | rfl | (simp; done) | (simp [*]; done)), (by first | rfl | (simp; done) | (simp [*]; done)), H', ⟨by have := HK1.out; have := HK2.out; omega⟩, ⟨by (with_reducible repeat (first | apply Kd.R_alloc | apply Kd.R_drewN | apply Kd.R_drew)); exact HO_8.out⟩, ⟨by (with_reducible repeat (first | apply Kd.R_alloc | apply Kd.R_drewN | apply Kd.R_drew)); exact HO_9.out⟩, ⟨by (with_reducible repeat (first | refine blk_drewN ?_ _ | refine blk_drew ?_ | refine blk_alloc ?_ _)); exact BK261.out⟩, ⟨by repeat (first | (with_reducible first | exact HB.out | apply below_alloc | apply pw_below_drewN | apply below_drew1 | refine below_set ?_ GE261.out) | exact HB.out)⟩⟩
                  · rw [if_neg c29] at H
                    have c29b0 : (((rd_T24 l0 x14_2).f1) == a2) = false := beq_eq_false_iff_ne.mpr c29
                    have c29b1 : (((rd_T24 l0 x14_2).f1) != a2) = true := bne_iff_ne.mpr c29
                    have H' := Aside0.mk H
                    clear H
                    have p273 : 0 ≤ (x14_2 : Int) := of_decide_eq_true (by first | (with_reducible assumption) | assumption)
                    have q273 : x14_2 < (l0.length : Int) := of_decide_eq_true (by first | (with_reducible assumption) | assumption)
                    obtain ⟨ad273, e273, hx273_0, hx273_1⟩ := at_T24 HR0.out x14_2 p273 q273
                    cases e273
                    replace hx273_0 := (HB.out.cell (World.block_lt_of_cell? w _ hx273_0)).trans hx273_0
                    replace hx273_1 := (HB.out.cell (World.block_lt_of_cell? w _ hx273_1)).trans hx273_1
                    replace p273 := eq_true p273
                    replace q273 := eq_true q273
                    go_wp2
                    repeat (go_quiet (fail); try go_wp2)
                    go_roundg k2
                    case measure => have := HK1.out; have := HK2.out; omega
                    case rel => exact ⟨(x12_2), (wrap64 (x14_2 + 1)), (by first | rfl | (simp; done) | (simp [*]; done)), (by first | rfl | (simp; done) | (simp [*]; done)), H', ⟨by have := HK1.out; have := HK2.out; omega⟩, ⟨by (with_reducible repeat (first | apply Kd.R_alloc | apply Kd.R_drewN | apply Kd.R_drew)); exact HO_8.out⟩, ⟨by (with_reducible repeat (first | apply Kd.R_alloc | apply Kd.R_drewN | apply Kd.R_drew)); exact HO_9.out⟩, ⟨by (with_reducible repeat (first | refine blk_drewN ?_ _ | refine blk_drew ?_ | refine blk_alloc ?_ _)); exact BK261.out⟩, ⟨by repeat (first | (with_reducible first | exact HB.out | apply below_alloc | apply pw_below_drewN | apply below_drew1 | refine below_set ?_ GE261.out) | exact HB.out)⟩⟩
                · rw [if_neg c28] at H
                  exact absurd H (by simp)
              · rw [if_neg c27] at H
                have c27b0 : decide (x14_2 < (l0.length : Int)) = false := decide_eq_false c27
                clear c27
                have c30 : true = true := rfl
                · clear c30
                  have H1 : (if x10_1 = 1 then (if (t266.length : Int) = (wrap64 ((t263.length : Int) - 1)) then (if a2 = a1_1 then (some true) else (some (x11_1 == x12_2))) else (some false)) else (some false)) = some r := by first | (rw [if_pos rfl] at H; exact H) | (rw [if_pos trivial] at H; exact H)
                  clear H
                  have H := H1
                  clear H1
                  by_cases c31 : x10_1 = 1
                  · rw [if_pos c31] at H
                    have c31b0 : (x10_1 == 1) = true := beq_iff_eq.mpr c31
                    have c31b1 : (x10_1 != 1) = false := bne_eq_false_iff_eq.mpr c31
                    clear c31
                    by_cases c32 : (t266.length : Int) = (wrap64 ((t263.length : Int) - 1))
                    · rw [if_pos c32] at H
                      have c32b0 : ((t266.length : Int) == (wrap64 ((t263.length : Int) - 1))) = true := beq_iff_eq.mpr c32
                      have c32b1 : ((t266.length : Int) != (wrap64 ((t263.length : Int) - 1))) = false := bne_eq_false_iff_eq.mpr c32
                      clear c32
                      by_cases c33 : a2 = a1_1
                      · rw [if_pos c33] at H
                        have c33b0 : (a2 == a1_1) = true := beq_iff_eq.mpr c33
                        have c33b1 : (a2 != a1_1) = false := bne_eq_false_iff_eq.mpr c33
                        clear c33
                        obtain rfl := Option.some.inj H
                        obtain ⟨Ao34, co34, eo34⟩ := Kd.R_slice HO_9.out
                        subst eo34
                        have hcz35_0 : wr.cell? ⟨gb261, 0, none⟩ = some (.int .i64 a1_0) := (blk_cell BK261.out 0).trans rfl
                        have hcz35_1 : wr.cell? ⟨gb261, 1, none⟩ = some (.int .i64 a1_1) := (blk_cell BK261.out 1).trans rfl
                        have hfz35_0 := blk_frozen BK261.out 0
                        have hfz35_1 := blk_frozen BK261.out 1
                        go_wp2
                        repeat (go_quiet (fail); try go_wp2)
                        go_ret
                        exact ⟨by first | rfl | (simp [errW_none, errW_some] <;> rfl) | (simp [*, errW_none, errW_some] <;> rfl) | (exfalso; simp only [decide_eq_true_eq, decide_eq_false_iff_not, beq_iff_eq, bne_iff_ne, ne_eq, beq_eq_false_iff_ne, bne_eq_false_iff_eq] at *; omega), by repeat (first | (with_reducible first | exact HB.out | apply below_alloc | apply pw_below_drewN | apply below_drew1 | refine below_set ?_ GE261.out) | exact HB.out)⟩
                      · rw [if_neg c33] at H
                        have c33b0 : (a2 == a1_1) = false := beq_eq_false_iff_ne.mpr c33
                        have c33b1 : (a2 != a1_1) = true := bne_iff_ne.mpr c33
                        replace H : (if x11_1 = x12_2 then (some true) else (some false)) = some r := by
                          rw [← H]
                          by_cases hc_ : x11_1 = x12_2
                          · rw [if_pos hc_]; exact congrArg some (Eq.symm (by first | exact decide_eq_true hc_ | exact beq_iff_eq.mpr hc_ | exact hc_ | (simp [hc_]; done) | simp_all))
                          · rw [if_neg hc_]; exact congrArg some (Eq.symm (by first | exact decide_eq_false hc_ | exact beq_eq_false_iff_ne.mpr hc_ | exact Bool.eq_false_iff.mpr hc_ | (simp [hc_]; done) | simp_all))
                        by_cases c36 : x11_1 = x12_2
                        · rw [if_pos c36] at H
                          have c36b0 : (x11_1 == x12_2) = true := beq_iff_eq.mpr c36
                          have c36b1 : (x11_1 != x12_2) = false := bne_eq_false_iff_eq.mpr c36
                          clear c36
                          obtain rfl := Option.some.inj H
                          obtain ⟨Ao37, co37, eo37⟩ := Kd.R_slice HO_9.out
                          subst eo37
                          have hcz38_0 : wr.cell? ⟨gb261, 0, none⟩ = some (.int .i64 a1_0) := (blk_cell BK261.out 0).trans rfl
                          have hcz38_1 : wr.cell? ⟨gb261, 1, none⟩ = some (.int .i64 a1_1) := (blk_cell BK261.out 1).trans rfl
                          have hfz38_0 := blk_frozen BK261.out 0
                          have hfz38_1 := blk_frozen BK261.out 1
                          go_wp2
                          repeat (go_quiet (fail); try go_wp2)
                          go_ret
                          exact ⟨by first | rfl | (simp [errW_none, errW_some] <;> rfl) | (simp [*, errW_none, errW_some] <;> rfl) | (exfalso; simp only [decide_eq_true_eq, decide_eq_false_iff_not, beq_iff_eq, bne_iff_ne, ne_eq, beq_eq_false_iff_ne, bne_eq_false_iff_eq] at *; omega), by repeat (first | (with_reducible first | exact HB.out | apply below_alloc | apply pw_below_drewN | apply below_drew1 | refine below_set ?_ GE261.out) | exact HB.out)⟩
                        · rw [if_neg c36] at H
                          exact absurd ((Option.some.inj H).trans hT_.out) (by decide)
                    · rw [if_neg c32] at H
                      exact absurd ((Option.some.inj H).trans hT_.out) (by decide)
                  · rw [if_neg c31] at H
                    exact absurd ((Option.some.inj H).trans hT_.out) (by decide)
end Go.Proofs.Yteomnodigfcfeaa.Q
