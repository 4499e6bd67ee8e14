/- This text was written by a program of this session: what each Go function computes, as a Lean function, and that its call does so. -/
import Derived.Test.YtngbkagamhakiaaQ0
import Derived.Test.YtngbkagamhakiaaQ13
import Derived.Test.YtngbkagamhakiaaQ15
import Derived.Test.YtngbkagamhakiaaQ9
import Derived.Test.YtngbkagamhakiaaH9
import Derived.Test.YtngbkagamhakiaaH11
namespace Go.Proofs.Ytngbkagamhakiaa.Q
open Go.RowKit Go.Proofs.YtngbkagamhakiaaW.PrintWords Go.Proofs.YtngbkagamhakiaaW.PrintLast Go.Proofs.YtngbkagamhakiaaW.PrintMore
attribute [local go_sem] max2_int min2_int max_two min_two max_three min_three max_four min_four   -- for this text's walks alone
set_option linter.unusedVariables false
set_option linter.unusedSimpArgs false

/-! ### interchangelaw16_SeqFull: function 8 -/
def interchangelaw16_SeqFull.j0 : Nat → Int → Bool → Bool → Bool → Int → Int → List Int → Option (Bool)
  | 0, _, _, _, _, _, _, _ => none
  | k + 1, x1, x5, x29, x340000, x340001, x340002, x340003 => if x29 = true then (some x5) else ((seq_Publish.f x340000 x340001 x340002 x340003 x1).bind fun bt342 => (if bt342.2.2.2.2.2 = 0 then (if x5 = true then (if (x340003.length : Int) < x1 then (if bt342.2.2.2.2.1 = x340001 then (if (bt342.2.2.2.1.length : Int) = (wrap64 ((x340003.length : Int) + 1)) then (if bt342.2.1 = (IntKind.u64.wrap (bt342.2.2.2.2.1 + 1)) then (some (bt342.2.2.1 == x340002)) else (some false)) else (some false)) else (some false)) else (some false)) else (some false)) else (if x5 = true then (if bt342.2.2.2.2.2 = 12 then (if (x340003.length : Int) ≥ x1 then ((seq_Same.f k bt342.1 bt342.2.1 bt342.2.2.1 bt342.2.2.2.1 x340000 x340001 x340002 x340003).bind fun t351 => (some t351)) else (some false)) else (some false)) else (some false))))
def interchangelaw16_SeqFull.f (k : Nat) (a0_0 : Bool) (a0_1 : Int) (a0_2 : Int) (l0_3 : List Int) (a1 : Int) : Option (Bool) := (interchangelaw16_shown.f).bind fun t340 => ((interchangeref16_Right.f k a0_0 a0_1 a0_2 l0_3).bind fun t341 => (if t341 = true then (if a0_0 = true then (if a0_1 > 4611686018427387904 then (interchangelaw16_SeqFull.j0 k a1 true true a0_0 a0_1 a0_2 l0_3) else (interchangelaw16_SeqFull.j0 k a1 true (decide (a0_2 > 4611686018427387904)) a0_0 a0_1 a0_2 l0_3)) else (interchangelaw16_SeqFull.j0 k a1 true true a0_0 a0_1 a0_2 l0_3)) else (interchangelaw16_SeqFull.j0 k a1 true true a0_0 a0_1 a0_2 l0_3)))
theorem interchangelaw16_SeqFull.mono_l : ∀ k, (∀ y0 y1 y2 y3 y4 y5 y6, LeO (interchangelaw16_SeqFull.j0 k y0 y1 y2 y3 y4 y5 y6) (interchangelaw16_SeqFull.j0 (k + 1) y0 y1 y2 y3 y4 y5 y6))
  | 0 => fun _ _ _ _ _ _ _ r h => by simp [interchangelaw16_SeqFull.j0] at h
  | k + 1 => by
    have ih0 := interchangelaw16_SeqFull.mono_l k
    · intro y0 y1 y2 y3 y4 y5 y6
      unfold interchangelaw16_SeqFull.j0
      repeat' first
      | (with_reducible exact ih0 _ _ _ _ _ _ _)
      | (with_reducible exact interchangeref16_Right.mono _ _ _ _ _)
      | (with_reducible exact seq_Same.mono _ _ _ _ _ _ _ _ _)
      | (with_reducible exact LeO.refl _)
      | (with_reducible exact LeO.none _)
      | (with_reducible refine LeO.ite ?_ ?_)
      | (with_reducible refine LeO.bind ?_ (fun _ => ?_))
      | exact ih0 _ _ _ _ _ _ _
      | exact interchangeref16_Right.mono _ _ _ _ _
      | exact seq_Same.mono _ _ _ _ _ _ _ _ _
      | exact LeO.none _
      | refine LeO.ite ?_ ?_
      | refine LeO.bind ?_ (fun _ => ?_)
theorem interchangelaw16_SeqFull.mono : ∀ a0 a1 a2 a3 a4 k, LeO (interchangelaw16_SeqFull.f k a0 a1 a2 a3 a4) (interchangelaw16_SeqFull.f (k + 1) a0 a1 a2 a3 a4) := by
  intro a0 a1 a2 a3 a4 k
  have ih0 := interchangelaw16_SeqFull.mono_l k
  unfold interchangelaw16_SeqFull.f
  repeat' first
      | (with_reducible exact ih0 _ _ _ _ _ _ _)
      | (with_reducible exact interchangeref16_Right.mono _ _ _ _ _)
      | (with_reducible exact seq_Same.mono _ _ _ _ _ _ _ _ _)
      | (with_reducible exact LeO.refl _)
      | (with_reducible exact LeO.none _)
      | (with_reducible refine LeO.ite ?_ ?_)
      | (with_reducible refine LeO.bind ?_ (fun _ => ?_))
      | exact ih0 _ _ _ _ _ _ _
      | exact interchangeref16_Right.mono _ _ _ _ _
      | exact seq_Same.mono _ _ _ _ _ _ _ _ _
      | exact LeO.none _
      | refine LeO.ite ?_ ?_
      | refine LeO.bind ?_ (fun _ => ?_)
set_option maxHeartbeats 8000000 in
set_option maxRecDepth 100000 in
theorem interchangelaw16_SeqFull.calls (k : Nat) (a0_0 : Bool) (a0_1 : Int) (a0_2 : Int) (A0_3 : Option Addr) (c0_3 : Nat) (l0_3 : List Int) (a1 : Int) (r : Bool) (w : World) (hr0_3 : Kd.C (Kd.int .u64) w A0_3 l0_3.length l0_3) (hc0_3 : l0_3.length ≤ c0_3) (hT_ : Aside0 (r = true)) (h : interchangelaw16_SeqFull.f k a0_0 a0_1 a0_2 l0_3 a1 = some r) :
    Calls Try.prog 8 #[.agg #[.bool a0_0, .int .u64 a0_1, .int .u64 a0_2, .slice A0_3 l0_3.length c0_3], .int .i64 a1] w fun e w' => e = .returned (.bool r) ∧ Below w.heap.size w w' := by
  have hu26 := Try.underlying26
  have HR0_3 := Aside0.mk hr0_3
  have HC0_3 := Aside0.mk hc0_3
  clear hr0_3 hc0_3
  have HB := Aside0.mk (Below.refl w.heap.size w)
  have H : ((interchangelaw16_shown.f).bind fun t340 => ((interchangeref16_Right.f k a0_0 a0_1 a0_2 l0_3).bind fun t341 => (if t341 = true then (if a0_0 = true then (if a0_1 > 4611686018427387904 then (interchangelaw16_SeqFull.j0 k a1 true true a0_0 a0_1 a0_2 l0_3) else (interchangelaw16_SeqFull.j0 k a1 true (decide (a0_2 > 4611686018427387904)) a0_0 a0_1 a0_2 l0_3)) else (interchangelaw16_SeqFull.j0 k a1 true true a0_0 a0_1 a0_2 l0_3)) else (interchangelaw16_SeqFull.j0 k a1 true true a0_0 a0_1 a0_2 l0_3)))) = some r := h
  clear h
  replace H := Option.bind_eq_some_iff.mp H
  obtain ⟨t340, A30, H⟩ := H
  replace H : ((interchangeref16_Right.f k a0_0 a0_1 a0_2 l0_3).bind fun t341 => (if t341 = true then (if a0_0 = true then (if a0_1 > 4611686018427387904 then (interchangelaw16_SeqFull.j0 k a1 true true a0_0 a0_1 a0_2 l0_3) else (interchangelaw16_SeqFull.j0 k a1 true (decide (a0_2 > 4611686018427387904)) a0_0 a0_1 a0_2 l0_3)) else (interchangelaw16_SeqFull.j0 k a1 true true a0_0 a0_1 a0_2 l0_3)) else (interchangelaw16_SeqFull.j0 k a1 true true a0_0 a0_1 a0_2 l0_3))) = some r := H
  obtain rfl : true = t340 := Option.some.inj (interchangelaw16_shown_true.symm.trans A30)
  have A3 := Aside0.mk A30
  clear A30
  replace H := Option.bind_eq_some_iff.mp H
  obtain ⟨t341, A40, H⟩ := H
  replace H : (if t341 = true then (if a0_0 = true then (if a0_1 > 4611686018427387904 then (interchangelaw16_SeqFull.j0 k a1 true true a0_0 a0_1 a0_2 l0_3) else (interchangelaw16_SeqFull.j0 k a1 true (decide (a0_2 > 4611686018427387904)) a0_0 a0_1 a0_2 l0_3)) else (interchangelaw16_SeqFull.j0 k a1 true true a0_0 a0_1 a0_2 l0_3)) else (interchangelaw16_SeqFull.j0 k a1 true true a0_0 a0_1 a0_2 l0_3)) = some r := H
  have A4 := Aside0.mk A40
  clear A40
  have HC5 := Aside0.mk H
  clear H
  go_enter Try.func8, Try.ntmps8
  go_upto_region 3 with (first | ((with_reducible refine gate_dst (N := 2) rfl ?_); (try (refine gate_guard (by rfl) ?_; dsimp only)); refine box_event ?hg (N := 2) ?hd (cs := #[.bool a0_0, .int .u64 a0_1, .int .u64 a0_2, .slice A0_3 l0_3.length c0_3]) (t := 26) ?hr ?_; (case hd => rfl); (case hg => rfl); (case hr => first | (go_simp; done) | (go_simp; rfl)); intro gb339 hg w6 hbox hb; have n0_ := Aside0.mk (below_step (by repeat (first | (with_reducible first | exact HB.out | apply below_alloc | apply pw_below_drewN | apply below_drew1) | exact HB.out)) hb); have n1_ := Aside0.mk (hbox); have n2_ := Aside0.mk ((by rw [hg]; exact (below_size (by repeat (first | (with_reducible first | exact HB.out | apply below_alloc | apply pw_below_drewN | apply below_drew1) | exact HB.out))) : w.heap.size ≤ gb339)); have n3_ := Aside0.mk ((by rw [hg]; exact (below_size (by repeat (first | (with_reducible first | exact HB.out | apply below_alloc | apply pw_below_drewN | apply below_drew1) | exact HB.out))) : w.heap.size ≤ gb339)); clear HB; have HB := n0_; have BK339 := n1_; have GW339 := n2_; have GE339 := n3_; clear n0_ n1_ n2_ n3_; clear hb hbox hg) | ((with_reducible refine gate_callee (f := 9) rfl ?_); refine goesL_ (some 10) rfl rfl Try.func9 (by kernel_rfl) rfl #[] rfl (by (try simp only [List.map_toArray, List.map_cons, List.map_nil]); first | done | rfl | (simp only [List.length_drop, List.length_take]; rfl)) ?_; (with_reducible refine (interchangelaw16_shown.calls true _ ⟨rfl⟩ A3.out).mono ?_); rintro e w7 ⟨rfl, hb⟩; refine ⟨_, rfl, ?_⟩; have n0_ := Aside0.mk (blk_below (g := gb339) (o := .cells #[.bool a0_0, .int .u64 a0_1, .int .u64 a0_2, .slice A0_3 l0_3.length c0_3] 26 (0, 0)) (by (with_reducible repeat (first | refine blk_drewN ?_ _ | refine blk_drew ?_ | refine blk_alloc ?_ _)); exact BK339.out) hb); have n1_ := Aside0.mk (below_step (by repeat (first | (with_reducible first | exact HB.out | apply below_alloc | apply pw_below_drewN | apply below_drew1 | refine below_set ?_ GE339.out) | exact HB.out)) hb); clear BK339; clear HB; have BK339 := n0_; have HB := n1_; clear n0_ n1_; (try clear hb); (try clear hb2); (try clear hk); (try clear hi); have hcz8_0 : w7.cell? ⟨gb339, 0, none⟩ = some (.bool a0_0) := (blk_cell BK339.out 0).trans rfl; have hcz8_1 : w7.cell? ⟨gb339, 1, none⟩ = some (.int .u64 a0_1) := (blk_cell BK339.out 1).trans rfl; have hcz8_2 : w7.cell? ⟨gb339, 2, none⟩ = some (.int .u64 a0_2) := (blk_cell BK339.out 2).trans rfl; have hcz8_3 : w7.cell? ⟨gb339, 3, none⟩ = some (.slice A0_3 l0_3.length c0_3) := (blk_cell BK339.out 3).trans rfl; have hfz8_0 := blk_frozen BK339.out 0; have hfz8_1 := blk_frozen BK339.out 1; have hfz8_2 := blk_frozen BK339.out 2; have hfz8_3 := blk_frozen BK339.out 3) | ((with_reducible refine gate_callee (f := 13) rfl ?_); refine goesL_ (some 12) rfl rfl Try.func13 (by kernel_rfl) rfl #[.agg #[.bool a0_0, .int .u64 a0_1, .int .u64 a0_2, .slice A0_3 l0_3.length c0_3]] rfl (by (try simp only [List.map_toArray, List.map_cons, List.map_nil]); first | done | rfl | (simp only [List.length_drop, List.length_take]; rfl)) ?_; (with_reducible refine (interchangeref16_Right.calls k a0_0 a0_1 a0_2 _ _ l0_3 t341 _ ?side1 ?side2 A4.out).mono ?_); (case side1 => repeat (first | exact (Kd.C_below HR0_3.out HB.out) | (with_reducible refine Kd.C_alloc ?_ _) | (with_reducible refine Kd.C_drewN ?_ _) | (with_reducible refine Kd.C_drew ?_))); (case side2 => exact HC0_3.out); rintro e w9 ⟨rfl, hb⟩; refine ⟨_, rfl, ?_⟩; have n0_ := Aside0.mk (blk_below (g := gb339) (o := .cells #[.bool a0_0, .int .u64 a0_1, .int .u64 a0_2, .slice A0_3 l0_3.length c0_3] 26 (0, 0)) (by (with_reducible repeat (first | refine blk_drewN ?_ _ | refine blk_drew ?_ | refine blk_alloc ?_ _)); exact BK339.out) hb); have n1_ := Aside0.mk (below_step (by repeat (first | (with_reducible first | exact HB.out | apply below_alloc | apply pw_below_drewN | apply below_drew1 | refine below_set ?_ GE339.out) | exact HB.out)) hb); clear BK339; clear HB; have BK339 := n0_; have HB := n1_; clear n0_ n1_; (try clear hb); (try clear hb2); (try clear hk); (try clear hi)))
  (try simp only [Act.put, List.setIfInBounds_toArray, List.set_cons_zero, List.set_cons_succ])
  go_cut [29] (fun v29 wc => ∃ (kq : Nat) (x29_4 : Bool), v29 = .bool x29_4 ∧ Aside0 (interchangelaw16_SeqFull.j0 kq a1 true x29_4 a0_0 a0_1 a0_2 l0_3 = some r) ∧ Aside0 (kq ≤ k) ∧ Aside0 (wc.heap[gb339]? = some (.cells #[.bool a0_0, .int .u64 a0_1, .int .u64 a0_2, (.slice A0_3 l0_3.length c0_3)] 26 (0, 0))) ∧ Aside0 (Below w.heap.size w wc))
  case first =>
    have H := HC5.out
    clear HC5
    by_cases c10 : t341 = true
    · subst c10
      have H1 : (if a0_0 = true then (if a0_1 > 4611686018427387904 then (interchangelaw16_SeqFull.j0 k a1 true true a0_0 a0_1 a0_2 l0_3) else (interchangelaw16_SeqFull.j0 k a1 true (decide (a0_2 > 4611686018427387904)) a0_0 a0_1 a0_2 l0_3)) else (interchangelaw16_SeqFull.j0 k a1 true true a0_0 a0_1 a0_2 l0_3)) = some r := by rw [if_pos rfl] at H; exact H
      clear H
      have H := H1
      clear H1
      by_cases c11 : a0_0 = true
      · subst c11
        have H1 : (if a0_1 > 4611686018427387904 then (interchangelaw16_SeqFull.j0 k a1 true true true a0_1 a0_2 l0_3) else (interchangelaw16_SeqFull.j0 k a1 true (decide (a0_2 > 4611686018427387904)) true a0_1 a0_2 l0_3)) = some r := by rw [if_pos rfl] at H; exact H
        clear H
        have H := H1
        clear H1
        by_cases c12 : a0_1 > 4611686018427387904
        · rw [if_pos c12] at H
          have c12b0 : decide (4611686018427387904 < a0_1) = true := decide_eq_true c12
          clear c12
          (first | rw [c12b0] | (simp only [i64_w, i32_w]; rw [c12b0]) | skip)
          have H' := Aside0.mk H
          clear H
          have hcz13_0 : w9.cell? ⟨gb339, 0, none⟩ = some (.bool true) := (blk_cell BK339.out 0).trans rfl
          have hcz13_1 : w9.cell? ⟨gb339, 1, none⟩ = some (.int .u64 a0_1) := (blk_cell BK339.out 1).trans rfl
          have hcz13_2 : w9.cell? ⟨gb339, 2, none⟩ = some (.int .u64 a0_2) := (blk_cell BK339.out 2).trans rfl
          have hcz13_3 : w9.cell? ⟨gb339, 3, none⟩ = some (.slice A0_3 l0_3.length c0_3) := (blk_cell BK339.out 3).trans rfl
          have hfz13_0 := blk_frozen BK339.out 0
          have hfz13_1 := blk_frozen BK339.out 1
          have hfz13_2 := blk_frozen BK339.out 2
          have hfz13_3 := blk_frozen BK339.out 3
          go_wp2
          go_meet
          case rel => exact ⟨_, (true), (by first | rfl | (simp; done) | (simp [*]; done)), H', ⟨by first | omega | exact Nat.le_refl _⟩, ⟨by (with_reducible repeat (first | refine blk_drewN ?_ _ | refine blk_drew ?_ | refine blk_alloc ?_ _)); exact BK339.out⟩, ⟨by repeat (first | (with_reducible first | exact HB.out | apply below_alloc | apply pw_below_drewN | apply below_drew1 | refine below_set ?_ GE339.out) | exact HB.out)⟩⟩
        · rw [if_neg c12] at H
          have c12b0 : decide (4611686018427387904 < a0_1) = false := decide_eq_false c12
          clear c12
          (first | rw [c12b0] | (simp only [i64_w, i32_w]; rw [c12b0]) | skip)
          have H' := Aside0.mk H
          clear H
          have hcz14_0 : w9.cell? ⟨gb339, 0, none⟩ = some (.bool true) := (blk_cell BK339.out 0).trans rfl
          have hcz14_1 : w9.cell? ⟨gb339, 1, none⟩ = some (.int .u64 a0_1) := (blk_cell BK339.out 1).trans rfl
          have hcz14_2 : w9.cell? ⟨gb339, 2, none⟩ = some (.int .u64 a0_2) := (blk_cell BK339.out 2).trans rfl
          have hcz14_3 : w9.cell? ⟨gb339, 3, none⟩ = some (.slice A0_3 l0_3.length c0_3) := (blk_cell BK339.out 3).trans rfl
          have hfz14_0 := blk_frozen BK339.out 0
          have hfz14_1 := blk_frozen BK339.out 1
          have hfz14_2 := blk_frozen BK339.out 2
          have hfz14_3 := blk_frozen BK339.out 3
          go_wp2
          go_meet
          case rel => exact ⟨_, (decide (a0_2 > 4611686018427387904)), (by first | rfl | (simp; done) | (simp [*]; done)), H', ⟨by first | omega | exact Nat.le_refl _⟩, ⟨by (with_reducible repeat (first | refine blk_drewN ?_ _ | refine blk_drew ?_ | refine blk_alloc ?_ _)); exact BK339.out⟩, ⟨by repeat (first | (with_reducible first | exact HB.out | apply below_alloc | apply pw_below_drewN | apply below_drew1 | refine below_set ?_ GE339.out) | exact HB.out)⟩⟩
      · replace c11 := Bool.eq_false_iff.mpr c11
        subst c11
        have H1 : (interchangelaw16_SeqFull.j0 k a1 true true false a0_1 a0_2 l0_3) = some r := by rw [if_neg (show ¬ (false = true) by decide)] at H; exact H
        clear H
        have H := H1
        clear H1
        have H' := Aside0.mk H
        clear H
        have hcz15_0 : w9.cell? ⟨gb339, 0, none⟩ = some (.bool false) := (blk_cell BK339.out 0).trans rfl
        have hcz15_1 : w9.cell? ⟨gb339, 1, none⟩ = some (.int .u64 a0_1) := (blk_cell BK339.out 1).trans rfl
        have hcz15_2 : w9.cell? ⟨gb339, 2, none⟩ = some (.int .u64 a0_2) := (blk_cell BK339.out 2).trans rfl
        have hcz15_3 : w9.cell? ⟨gb339, 3, none⟩ = some (.slice A0_3 l0_3.length c0_3) := (blk_cell BK339.out 3).trans rfl
        have hfz15_0 := blk_frozen BK339.out 0
        have hfz15_1 := blk_frozen BK339.out 1
        have hfz15_2 := blk_frozen BK339.out 2
        have hfz15_3 := blk_frozen BK339.out 3
        go_wp2
        go_meet
        case rel => exact ⟨_, (true), (by first | rfl | (simp; done) | (simp [*]; done)), H', ⟨by first | omega | exact Nat.le_refl _⟩, ⟨by (with_reducible repeat (first | refine blk_drewN ?_ _ | refine blk_drew ?_ | refine blk_alloc ?_ _)); exact BK339.out⟩, ⟨by repeat (first | (with_reducible first | exact HB.out | apply below_alloc | apply pw_below_drewN | apply below_drew1 | refine below_set ?_ GE339.out) | exact HB.out)⟩⟩
    · replace c10 := Bool.eq_false_iff.mpr c10
      subst c10
      have H1 : (interchangelaw16_SeqFull.j0 k a1 true true a0_0 a0_1 a0_2 l0_3) = some r := by rw [if_neg (show ¬ (false = true) by decide)] at H; exact H
      clear H
      have H := H1
      clear H1
      have H' := Aside0.mk H
      clear H
      go_wp2
      go_meet
      case rel => exact ⟨_, (true), (by first | rfl | (simp; done) | (simp [*]; done)), H', ⟨by first | omega | exact Nat.le_refl _⟩, ⟨by (with_reducible repeat (first | refine blk_drewN ?_ _ | refine blk_drew ?_ | refine blk_alloc ?_ _)); exact BK339.out⟩, ⟨by repeat (first | (with_reducible first | exact HB.out | apply below_alloc | apply pw_below_drewN | apply below_drew1 | refine below_set ?_ GE339.out) | exact HB.out)⟩⟩
  case rest =>
    clear HC5
    try clear c1
    try clear p2
    try clear c8
    try clear c9
    try clear c10
    try clear c11
    try clear c12
    try clear c12b0
    try clear c13
    try clear hcz13_0
    try clear hcz13_1
    try clear hcz13_2
    try clear hcz13_3
    try clear hcz14_0
    try clear hcz14_1
    try clear hcz14_2
    try clear hcz14_3
    try clear hcz15_0
    try clear hcz15_1
    try clear hcz15_2
    try clear hcz15_3
    try clear hcz8_0
    try clear hcz8_1
    try clear hcz8_2
    try clear hcz8_3
    try clear hfz13_0
    try clear hfz13_1
    try clear hfz13_2
    try clear hfz13_3
    try clear hfz14_0
    try clear hfz14_1
    try clear hfz14_2
    try clear hfz14_3
    try clear hfz15_0
    try clear hfz15_1
    try clear hfz15_2
    try clear hfz15_3
    try clear hfz8_0
    try clear hfz8_1
    try clear hfz8_2
    try clear hfz8_3
    obtain ⟨kq, x29_4, rfl, HA, HJ4, BK339, HB⟩ := hcut
    cases kq with
    | zero => exact absurd HA.out (by simp [interchangelaw16_SeqFull.j0])
    | succ kj4 =>
      have H := HA.out
      clear HA
      simp only [interchangelaw16_SeqFull.j0] at H
      by_cases c16 : x29_4 = true
      · subst c16
        have H1 : (some true) = some r := by rw [if_pos rfl] at H; exact H
        clear H
        have H := H1
        clear H1
        obtain rfl := Option.some.inj H
        go_wp2
        go_ret
        exact ⟨by first | rfl | (simp [errW_none, errW_some] <;> rfl) | (simp [*, errW_none, errW_some] <;> rfl) | (exfalso; simp only [decide_eq_true_eq, decide_eq_false_iff_not, beq_iff_eq, bne_iff_ne, ne_eq, beq_eq_false_iff_ne, bne_eq_false_iff_eq] at *; omega), by repeat (first | (with_reducible first | exact HB.out | apply below_alloc | apply pw_below_drewN | apply below_drew1 | refine below_set ?_ GE339.out) | exact HB.out)⟩
      · replace c16 := Bool.eq_false_iff.mpr c16
        subst c16
        have H1 : ((seq_Publish.f a0_0 a0_1 a0_2 l0_3 a1).bind fun bt342 => (if bt342.2.2.2.2.2 = 0 then (if true = true then (if (l0_3.length : Int) < a1 then (if bt342.2.2.2.2.1 = a0_1 then (if (bt342.2.2.2.1.length : Int) = (wrap64 ((l0_3.length : Int) + 1)) then (if bt342.2.1 = (IntKind.u64.wrap (bt342.2.2.2.2.1 + 1)) then (some (bt342.2.2.1 == a0_2)) else (some false)) else (some false)) else (some false)) else (some false)) else (some false)) else (if true = true then (if bt342.2.2.2.2.2 = 12 then (if (l0_3.length : Int) ≥ a1 then ((seq_Same.f kj4 bt342.1 bt342.2.1 bt342.2.2.1 bt342.2.2.2.1 a0_0 a0_1 a0_2 l0_3).bind fun t351 => (some t351)) else (some false)) else (some false)) else (some false)))) = some r := by rw [if_neg (show ¬ (false = true) by decide)] at H; exact H
        clear H
        have H := H1
        clear H1
        replace H := Option.bind_eq_some_iff.mp H
        obtain ⟨⟨t342, t343, t344, t345, t348, t349⟩, A170, H⟩ := H
        replace H : (if t349 = 0 then (if true = true then (if (l0_3.length : Int) < a1 then (if t348 = a0_1 then (if (t345.length : Int) = (wrap64 ((l0_3.length : Int) + 1)) then (if t343 = (IntKind.u64.wrap (t348 + 1)) then (some (t344 == a0_2)) else (some false)) else (some false)) else (some false)) else (some false)) else (some false)) else (if true = true then (if t349 = 12 then (if (l0_3.length : Int) ≥ a1 then ((seq_Same.f kj4 t342 t343 t344 t345 a0_0 a0_1 a0_2 l0_3).bind fun t351 => (some t351)) else (some false)) else (some false)) else (some false))) = some r := H
        have A17 := Aside0.mk A170
        clear A170
        by_cases c18 : t349 = 0
        · rw [if_pos c18] at H
          have c18b0 : (t349 == 0) = true := beq_iff_eq.mpr c18
          have c18b1 : (t349 != 0) = false := bne_eq_false_iff_eq.mpr c18
          clear c18
          have c19 : true = true := rfl
          · clear c19
            have H1 : (if (l0_3.length : Int) < a1 then (if t348 = a0_1 then (if (t345.length : Int) = (wrap64 ((l0_3.length : Int) + 1)) then (if t343 = (IntKind.u64.wrap (t348 + 1)) then (some (t344 == a0_2)) else (some false)) else (some false)) else (some false)) else (some false)) = some r := by first | (rw [if_pos rfl] at H; exact H) | (rw [if_pos trivial] at H; exact H)
            clear H
            have H := H1
            clear H1
            by_cases c20 : (l0_3.length : Int) < a1
            · rw [if_pos c20] at H
              have c20b0 : decide ((l0_3.length : Int) < a1) = true := decide_eq_true c20
              clear c20
              by_cases c21 : t348 = a0_1
              · rw [if_pos c21] at H
                have c21b0 : (t348 == a0_1) = true := beq_iff_eq.mpr c21
                have c21b1 : (t348 != a0_1) = false := bne_eq_false_iff_eq.mpr c21
                clear c21
                by_cases c22 : (t345.length : Int) = (wrap64 ((l0_3.length : Int) + 1))
                · rw [if_pos c22] at H
                  have c22b0 : ((t345.length : Int) == (wrap64 ((l0_3.length : Int) + 1))) = true := beq_iff_eq.mpr c22
                  have c22b1 : ((t345.length : Int) != (wrap64 ((l0_3.length : Int) + 1))) = false := bne_eq_false_iff_eq.mpr c22
                  clear c22
                  by_cases c23 : t343 = (IntKind.u64.wrap (t348 + 1))
                  · rw [if_pos c23] at H
                    have c23b0 : (t343 == (IntKind.u64.wrap (t348 + 1))) = true := beq_iff_eq.mpr c23
                    have c23b1 : (t343 != (IntKind.u64.wrap (t348 + 1))) = false := bne_eq_false_iff_eq.mpr c23
                    clear c23
                    replace H : (if t344 = a0_2 then (some true) else (some false)) = some r := by
                      rw [← H]
                      by_cases hc_ : t344 = a0_2
                      · rw [if_pos hc_]; exact congrArg some (Eq.symm (by first | exact decide_eq_true hc_ | exact beq_iff_eq.mpr hc_ | exact hc_ | (simp [hc_]; done) | simp_all))
                      · rw [if_neg hc_]; exact congrArg some (Eq.symm (by first | exact decide_eq_false hc_ | exact beq_eq_false_iff_ne.mpr hc_ | exact Bool.eq_false_iff.mpr hc_ | (simp [hc_]; done) | simp_all))
                    by_cases c24 : t344 = a0_2
                    · rw [if_pos c24] at H
                      have c24b0 : (t344 == a0_2) = true := beq_iff_eq.mpr c24
                      have c24b1 : (t344 != a0_2) = false := bne_eq_false_iff_eq.mpr c24
                      clear c24
                      obtain rfl := Option.some.inj H
                      have hcz25_0 : wc.cell? ⟨gb339, 0, none⟩ = some (.bool a0_0) := (blk_cell BK339.out 0).trans rfl
                      have hcz25_1 : wc.cell? ⟨gb339, 1, none⟩ = some (.int .u64 a0_1) := (blk_cell BK339.out 1).trans rfl
                      have hcz25_2 : wc.cell? ⟨gb339, 2, none⟩ = some (.int .u64 a0_2) := (blk_cell BK339.out 2).trans rfl
                      have hcz25_3 : wc.cell? ⟨gb339, 3, none⟩ = some (.slice A0_3 l0_3.length c0_3) := (blk_cell BK339.out 3).trans rfl
                      have hfz25_0 := blk_frozen BK339.out 0
                      have hfz25_1 := blk_frozen BK339.out 1
                      have hfz25_2 := blk_frozen BK339.out 2
                      have hfz25_3 := blk_frozen BK339.out 3
                      go_wp2_with (first | ((with_reducible refine gate_callee (f := 11) rfl ?_); refine goesL_ (some 34) rfl rfl Try.func11 (by kernel_rfl) rfl #[.agg #[.bool a0_0, .int .u64 a0_1, .int .u64 a0_2, .slice A0_3 l0_3.length c0_3], .int .i64 a1] rfl (by (try simp only [List.map_toArray, List.map_cons, List.map_nil]); first | done | rfl | (simp only [List.length_drop, List.length_take]; rfl)) ?_; (with_reducible refine (seq_Publish.calls a0_0 a0_1 a0_2 (fun k_ => k_ < w.heap.size) _ _ l0_3 a1 t342 t343 t344 t345 t348 t349 _ ?side1 A17.out).mono ?_); (case side1 => exact Kd.V_mk HC0_3.out (Kd.F_below (Kd.C_F (Kd.heap_int .u64) HR0_3.out) (by repeat (first | (with_reducible first | exact HB.out | apply below_alloc | apply pw_below_drewN | apply below_drew1 | refine below_set ?_ GE339.out) | exact HB.out)))); rintro e w26 ⟨v346, rfl, ho0, hb⟩; refine ⟨_, rfl, ?_⟩; have n0_ := Aside0.mk (Kd.V_lower (Kd.V_mono (ok' := fun k_ => k_ ≠ gb339) ho0 (fun k_ hk_ => Or.elim hk_ (fun hs_ => fun e_ => Nat.not_le.2 hs_ (by rw [e_]; exact GW339.out)) (fun hn_ => (Kd.freshB (g := gb339) (o := .cells #[.bool a0_0, .int .u64 a0_1, .int .u64 a0_2, .slice A0_3 l0_3.length c0_3] 26 (0, 0)) (by (with_reducible repeat (first | refine blk_drewN ?_ _ | refine blk_drew ?_ | refine blk_alloc ?_ _)); exact BK339.out) k_ hn_)))) (below_size (by repeat (first | (with_reducible first | exact HB.out | apply below_alloc | apply pw_below_drewN | apply below_drew1 | refine below_set ?_ GE339.out) | exact HB.out)))); have n1_ := Aside0.mk (blk_below (g := gb339) (o := .cells #[.bool a0_0, .int .u64 a0_1, .int .u64 a0_2, .slice A0_3 l0_3.length c0_3] 26 (0, 0)) (by (with_reducible repeat (first | refine blk_drewN ?_ _ | refine blk_drew ?_ | refine blk_alloc ?_ _)); exact BK339.out) hb); have n2_ := Aside0.mk (below_step (by repeat (first | (with_reducible first | exact HB.out | apply below_alloc | apply pw_below_drewN | apply below_drew1 | refine below_set ?_ GE339.out) | exact HB.out)) hb); clear BK339; clear HB; have HO347 := n0_; have BK339 := n1_; have HB := n2_; clear n0_ n1_ n2_; (try clear hb); (try clear hb2); (try clear hk); (try clear hi); (try clear ho0)) | ((with_reducible refine gate_dst (N := 7) rfl ?_); (try (refine gate_guard (by rfl) ?_; dsimp only)); refine box_event ?hg (N := 7) ?hd (cs := #[.bool false, .int .u64 0, .int .u64 0, .slice none 0 0]) (t := 26) ?hr ?_; (case hd => rfl); (case hg => rfl); (case hr => first | (go_simp; done) | (go_simp; rfl)); intro gb350 hg w27 hbox hb; have n0_ := Aside0.mk (Kd.V_below (Kd.V_elderB (by (with_reducible repeat (first | apply Kd.V_alloc | apply Kd.V_drewN | apply Kd.V_drew)); exact HO347.out) gb350 (Nat.le_of_eq hg.symm)) hb); have n1_ := Aside0.mk (blk_below (g := gb339) (o := .cells #[.bool a0_0, .int .u64 a0_1, .int .u64 a0_2, .slice A0_3 l0_3.length c0_3] 26 (0, 0)) (by (with_reducible repeat (first | refine blk_drewN ?_ _ | refine blk_drew ?_ | refine blk_alloc ?_ _)); exact BK339.out) hb); have n2_ := Aside0.mk (below_step (by repeat (first | (with_reducible first | exact HB.out | apply below_alloc | apply pw_below_drewN | apply below_drew1 | refine below_set ?_ GE339.out) | exact HB.out)) hb); have n3_ := Aside0.mk (hbox); have n4_ := Aside0.mk ((by rw [hg]; exact (below_size (by repeat (first | (with_reducible first | exact HB.out | apply below_alloc | apply pw_below_drewN | apply below_drew1 | refine below_set ?_ GE339.out) | exact HB.out))) : w.heap.size ≤ gb350)); have n5_ := Aside0.mk ((by rw [hg]; exact (below_size (by repeat (first | (with_reducible first | exact HB.out | apply below_alloc | apply pw_below_drewN | apply below_drew1 | refine below_set ?_ GE339.out) | exact HB.out))) : w.heap.size ≤ gb350)); have n6_ := Aside0.mk ((by rw [hg]; exact Nat.ne_of_lt (blk_lt (g := gb339) (o := .cells #[.bool a0_0, .int .u64 a0_1, .int .u64 a0_2, .slice A0_3 l0_3.length c0_3] 26 (0, 0)) (by (with_reducible repeat (first | refine blk_drewN ?_ _ | refine blk_drew ?_ | refine blk_alloc ?_ _)); exact BK339.out)) : gb339 ≠ gb350)); have n7_ := Aside0.mk ((by rw [hg]; exact Nat.ne_of_gt (blk_lt (g := gb339) (o := .cells #[.bool a0_0, .int .u64 a0_1, .int .u64 a0_2, .slice A0_3 l0_3.length c0_3] 26 (0, 0)) (by (with_reducible repeat (first | refine blk_drewN ?_ _ | refine blk_drew ?_ | refine blk_alloc ?_ _)); exact BK339.out)) : gb350 ≠ gb339)); clear HO347; clear BK339; clear HB; have HO347 := n0_; have BK339 := n1_; have HB := n2_; have BK350 := n3_; have GW350 := n4_; have GE350 := n5_; have NB339_350 := n6_; have NB350_339 := n7_; clear n0_ n1_ n2_ n3_ n4_ n5_ n6_ n7_; clear hb hbox hg; have hnb28 := NB350_339.out; have hnc28 := NB339_350.out; have hcz29_0 : w27.cell? ⟨gb350, 0, none⟩ = some (.bool false) := (blk_cell BK350.out 0).trans rfl; have hcz29_1 : w27.cell? ⟨gb350, 1, none⟩ = some (.int .u64 0) := (blk_cell BK350.out 1).trans rfl; have hcz29_2 : w27.cell? ⟨gb350, 2, none⟩ = some (.int .u64 0) := (blk_cell BK350.out 2).trans rfl; have hcz29_3 : w27.cell? ⟨gb350, 3, none⟩ = some (.slice none 0 0) := (blk_cell BK350.out 3).trans rfl; have hfz29_0 := blk_frozen BK350.out 0; have hfz29_1 := blk_frozen BK350.out 1; have hfz29_2 := blk_frozen BK350.out 2; have hfz29_3 := blk_frozen BK350.out 3; obtain ⟨Ao30, co30, eo30⟩ := Kd.V_slice HO347.out; subst eo30; have hcz31_0 : w27.cell? ⟨gb339, 0, none⟩ = some (.bool a0_0) := (blk_cell BK339.out 0).trans rfl; have hcz31_1 : w27.cell? ⟨gb339, 1, none⟩ = some (.int .u64 a0_1) := (blk_cell BK339.out 1).trans rfl; have hcz31_2 : w27.cell? ⟨gb339, 2, none⟩ = some (.int .u64 a0_2) := (blk_cell BK339.out 2).trans rfl; have hcz31_3 : w27.cell? ⟨gb339, 3, none⟩ = some (.slice A0_3 l0_3.length c0_3) := (blk_cell BK339.out 3).trans rfl; have hfz31_0 := blk_frozen BK339.out 0; have hfz31_1 := blk_frozen BK339.out 1; have hfz31_2 := blk_frozen BK339.out 2; have hfz31_3 := blk_frozen BK339.out 3))
                      go_ret
                      exact ⟨by first | rfl | (simp [errW_none, errW_some] <;> rfl) | (simp [*, errW_none, errW_some] <;> rfl) | (exfalso; simp only [decide_eq_true_eq, decide_eq_false_iff_not, beq_iff_eq, bne_iff_ne, ne_eq, beq_eq_false_iff_ne, bne_eq_false_iff_eq] at *; omega), by repeat (first | (with_reducible first | exact HB.out | apply below_alloc | apply pw_below_drewN | apply below_drew1 | refine below_set ?_ GE339.out | refine below_set ?_ GE350.out) | exact HB.out)⟩
                    · rw [if_neg c24] at H
                      exact absurd ((Option.some.inj H).trans hT_.out) (by decide)
                  · rw [if_neg c23] at H
                    exact absurd ((Option.some.inj H).trans hT_.out) (by decide)
                · rw [if_neg c22] at H
                  exact absurd ((Option.some.inj H).trans hT_.out) (by decide)
              · rw [if_neg c21] at H
                exact absurd ((Option.some.inj H).trans hT_.out) (by decide)
            · rw [if_neg c20] at H
              exact absurd ((Option.some.inj H).trans hT_.out) (by decide)
        · rw [if_neg c18] at H
          have c18b0 : (t349 == 0) = false := beq_eq_false_iff_ne.mpr c18
          have c18b1 : (t349 != 0) = true := bne_iff_ne.mpr c18
          have c32 : true = true := rfl
          · clear c32
            have H1 : (if t349 = 12 then (if (l0_3.length : Int) ≥ a1 then ((seq_Same.f kj4 t342 t343 t344 t345 a0_0 a0_1 a0_2 l0_3).bind fun t351 => (some t351)) else (some false)) else (some false)) = some r := by first | (rw [if_pos rfl] at H; exact H) | (rw [if_pos trivial] at H; exact H)
            clear H
            have H := H1
            clear H1
            by_cases c33 : t349 = 12
            · rw [if_pos c33] at H
              have c33b0 : (t349 == 12) = true := beq_iff_eq.mpr c33
              have c33b1 : (t349 != 12) = false := bne_eq_false_iff_eq.mpr c33
              clear c33
              by_cases c34 : (l0_3.length : Int) ≥ a1
              · rw [if_pos c34] at H
                have c34b0 : decide (a1 ≤ (l0_3.length : Int)) = true := decide_eq_true c34
                clear c34
                replace H := Option.bind_eq_some_iff.mp H
                obtain ⟨t351, A350, H⟩ := H
                replace H : (some t351) = some r := H
                have A35 := Aside0.mk A350
                clear A350
                replace H : (if t351 = true then (some true) else (some false)) = some r := by
                  rw [← H]
                  by_cases hc_ : t351 = true
                  · rw [if_pos hc_]; exact congrArg some (Eq.symm (by first | exact decide_eq_true hc_ | exact beq_iff_eq.mpr hc_ | exact hc_ | (simp [hc_]; done) | simp_all))
                  · rw [if_neg hc_]; exact congrArg some (Eq.symm (by first | exact decide_eq_false hc_ | exact beq_eq_false_iff_ne.mpr hc_ | exact Bool.eq_false_iff.mpr hc_ | (simp [hc_]; done) | simp_all))
                by_cases c36 : t351 = true
                · subst c36
                  have H1 : (some true) = some r := by rw [if_pos rfl] at H; exact H
                  clear H
                  have H := H1
                  clear H1
                  obtain rfl := Option.some.inj H
                  have hcz37_0 : wc.cell? ⟨gb339, 0, none⟩ = some (.bool a0_0) := (blk_cell BK339.out 0).trans rfl
                  have hcz37_1 : wc.cell? ⟨gb339, 1, none⟩ = some (.int .u64 a0_1) := (blk_cell BK339.out 1).trans rfl
                  have hcz37_2 : wc.cell? ⟨gb339, 2, none⟩ = some (.int .u64 a0_2) := (blk_cell BK339.out 2).trans rfl
                  have hcz37_3 : wc.cell? ⟨gb339, 3, none⟩ = some (.slice A0_3 l0_3.length c0_3) := (blk_cell BK339.out 3).trans rfl
                  have hfz37_0 := blk_frozen BK339.out 0
                  have hfz37_1 := blk_frozen BK339.out 1
                  have hfz37_2 := blk_frozen BK339.out 2
                  have hfz37_3 := blk_frozen BK339.out 3
                  go_wp2_with (first | ((with_reducible refine gate_callee (f := 11) rfl ?_); refine goesL_ (some 34) rfl rfl Try.func11 (by kernel_rfl) rfl #[.agg #[.bool a0_0, .int .u64 a0_1, .int .u64 a0_2, .slice A0_3 l0_3.length c0_3], .int .i64 a1] rfl (by (try simp only [List.map_toArray, List.map_cons, List.map_nil]); first | done | rfl | (simp only [List.length_drop, List.length_take]; rfl)) ?_; (with_reducible refine (seq_Publish.calls a0_0 a0_1 a0_2 (fun k_ => k_ < w.heap.size) _ _ l0_3 a1 t342 t343 t344 t345 t348 t349 _ ?side1 A17.out).mono ?_); (case side1 => exact Kd.V_mk HC0_3.out (Kd.F_below (Kd.C_F (Kd.heap_int .u64) HR0_3.out) (by repeat (first | (with_reducible first | exact HB.out | apply below_alloc | apply pw_below_drewN | apply below_drew1 | refine below_set ?_ GE339.out) | exact HB.out)))); rintro e w38 ⟨v346, rfl, ho0, hb⟩; refine ⟨_, rfl, ?_⟩; have n0_ := Aside0.mk (Kd.V_lower (Kd.V_mono (ok' := fun k_ => k_ ≠ gb339) ho0 (fun k_ hk_ => Or.elim hk_ (fun hs_ => fun e_ => Nat.not_le.2 hs_ (by rw [e_]; exact GW339.out)) (fun hn_ => (Kd.freshB (g := gb339) (o := .cells #[.bool a0_0, .int .u64 a0_1, .int .u64 a0_2, .slice A0_3 l0_3.length c0_3] 26 (0, 0)) (by (with_reducible repeat (first | refine blk_drewN ?_ _ | refine blk_drew ?_ | refine blk_alloc ?_ _)); exact BK339.out) k_ hn_)))) (below_size (by repeat (first | (with_reducible first | exact HB.out | apply below_alloc | apply pw_below_drewN | apply below_drew1 | refine below_set ?_ GE339.out) | exact HB.out)))); have n1_ := Aside0.mk (blk_below (g := gb339) (o := .cells #[.bool a0_0, .int .u64 a0_1, .int .u64 a0_2, .slice A0_3 l0_3.length c0_3] 26 (0, 0)) (by (with_reducible repeat (first | refine blk_drewN ?_ _ | refine blk_drew ?_ | refine blk_alloc ?_ _)); exact BK339.out) hb); have n2_ := Aside0.mk (below_step (by repeat (first | (with_reducible first | exact HB.out | apply below_alloc | apply pw_below_drewN | apply below_drew1 | refine below_set ?_ GE339.out) | exact HB.out)) hb); clear BK339; clear HB; have HO347 := n0_; have BK339 := n1_; have HB := n2_; clear n0_ n1_ n2_; (try clear hb); (try clear hb2); (try clear hk); (try clear hi); (try clear ho0)) | ((with_reducible refine gate_dst (N := 7) rfl ?_); (try (refine gate_guard (by rfl) ?_; dsimp only)); refine box_event ?hg (N := 7) ?hd (cs := #[.bool false, .int .u64 0, .int .u64 0, .slice none 0 0]) (t := 26) ?hr ?_; (case hd => rfl); (case hg => rfl); (case hr => first | (go_simp; done) | (go_simp; rfl)); intro gb350 hg w39 hbox hb; have n0_ := Aside0.mk (Kd.V_below (Kd.V_elderB (by (with_reducible repeat (first | apply Kd.V_alloc | apply Kd.V_drewN | apply Kd.V_drew)); exact HO347.out) gb350 (Nat.le_of_eq hg.symm)) hb); have n1_ := Aside0.mk (blk_below (g := gb339) (o := .cells #[.bool a0_0, .int .u64 a0_1, .int .u64 a0_2, .slice A0_3 l0_3.length c0_3] 26 (0, 0)) (by (with_reducible repeat (first | refine blk_drewN ?_ _ | refine blk_drew ?_ | refine blk_alloc ?_ _)); exact BK339.out) hb); have n2_ := Aside0.mk (below_step (by repeat (first | (with_reducible first | exact HB.out | apply below_alloc | apply pw_below_drewN | apply below_drew1 | refine below_set ?_ GE339.out) | exact HB.out)) hb); have n3_ := Aside0.mk (hbox); have n4_ := Aside0.mk ((by rw [hg]; exact (below_size (by repeat (first | (with_reducible first | exact HB.out | apply below_alloc | apply pw_below_drewN | apply below_drew1 | refine below_set ?_ GE339.out) | exact HB.out))) : w.heap.size ≤ gb350)); have n5_ := Aside0.mk ((by rw [hg]; exact (below_size (by repeat (first | (with_reducible first | exact HB.out | apply below_alloc | apply pw_below_drewN | apply below_drew1 | refine below_set ?_ GE339.out) | exact HB.out))) : w.heap.size ≤ gb350)); have n6_ := Aside0.mk ((by rw [hg]; exact Nat.ne_of_lt (blk_lt (g := gb339) (o := .cells #[.bool a0_0, .int .u64 a0_1, .int .u64 a0_2, .slice A0_3 l0_3.length c0_3] 26 (0, 0)) (by (with_reducible repeat (first | refine blk_drewN ?_ _ | refine blk_drew ?_ | refine blk_alloc ?_ _)); exact BK339.out)) : gb339 ≠ gb350)); have n7_ := Aside0.mk ((by rw [hg]; exact Nat.ne_of_gt (blk_lt (g := gb339) (o := .cells #[.bool a0_0, .int .u64 a0_1, .int .u64 a0_2, .slice A0_3 l0_3.length c0_3] 26 (0, 0)) (by (with_reducible repeat (first | refine blk_drewN ?_ _ | refine blk_drew ?_ | refine blk_alloc ?_ _)); exact BK339.out)) : gb350 ≠ gb339)); clear HO347; clear BK339; clear HB; have HO347 := n0_; have BK339 := n1_; have HB := n2_; have BK350 := n3_; have GW350 := n4_; have GE350 := n5_; have NB339_350 := n6_; have NB350_339 := n7_; clear n0_ n1_ n2_ n3_ n4_ n5_ n6_ n7_; clear hb hbox hg; have hnb40 := NB350_339.out; have hnc40 := NB339_350.out; have hcz41_0 : w39.cell? ⟨gb350, 0, none⟩ = some (.bool false) := (blk_cell BK350.out 0).trans rfl; have hcz41_1 : w39.cell? ⟨gb350, 1, none⟩ = some (.int .u64 0) := (blk_cell BK350.out 1).trans rfl; have hcz41_2 : w39.cell? ⟨gb350, 2, none⟩ = some (.int .u64 0) := (blk_cell BK350.out 2).trans rfl; have hcz41_3 : w39.cell? ⟨gb350, 3, none⟩ = some (.slice none 0 0) := (blk_cell BK350.out 3).trans rfl; have hfz41_0 := blk_frozen BK350.out 0; have hfz41_1 := blk_frozen BK350.out 1; have hfz41_2 := blk_frozen BK350.out 2; have hfz41_3 := blk_frozen BK350.out 3; obtain ⟨Ao42, co42, eo42⟩ := Kd.V_slice HO347.out; subst eo42; have hcz43_0 : w39.cell? ⟨gb339, 0, none⟩ = some (.bool a0_0) := (blk_cell BK339.out 0).trans rfl; have hcz43_1 : w39.cell? ⟨gb339, 1, none⟩ = some (.int .u64 a0_1) := (blk_cell BK339.out 1).trans rfl; have hcz43_2 : w39.cell? ⟨gb339, 2, none⟩ = some (.int .u64 a0_2) := (blk_cell BK339.out 2).trans rfl; have hcz43_3 : w39.cell? ⟨gb339, 3, none⟩ = some (.slice A0_3 l0_3.length c0_3) := (blk_cell BK339.out 3).trans rfl; have hfz43_0 := blk_frozen BK339.out 0; have hfz43_1 := blk_frozen BK339.out 1; have hfz43_2 := blk_frozen BK339.out 2; have hfz43_3 := blk_frozen BK339.out 3) | (go_at_call 15; (with_reducible refine (seq_Same.calls kj4 t342 t343 t344 _ _ t345 a0_0 a0_1 a0_2 _ _ l0_3 true _ ?side1 ?side2 ?side3 ?side4 A35.out).mono ?_); (case side1 => refine (Kd.V_reads' (e := 22) (base := w.heap.size) (ok := fun k_ => (k_ ≠ gb339 ∧ k_ ≠ gb350)) (n := t345.length) (c := co42) ?_).2.2; exact (by (with_reducible repeat (first | apply Kd.V_alloc | apply Kd.V_drewN | apply Kd.V_drew)); exact (Kd.V_mono (Kd.V_far (p := ⟨gb350, 3, none⟩) (Kd.V_far (p := ⟨gb350, 2, none⟩) (Kd.V_far (p := ⟨gb350, 1, none⟩) (Kd.V_far (p := ⟨gb350, 0, none⟩) (Kd.V_mono HO347.out (fun k_ hk => (⟨hk, hk.2⟩ : _ ∧ k_ ≠ gb350))) (fun _ hk => hk.2) (.bool t342)) (fun _ hk => hk.2) (.int .u64 t343)) (fun _ hk => hk.2) (.int .u64 t344)) (fun _ hk => hk.2) (.slice Ao42 t345.length co42)) (fun _ h_ => h_.1)))); (case side2 => exact (Kd.V_reads' HO347.out).2.1); (case side3 => exact Kd.C_below HR0_3.out (by repeat (first | (with_reducible first | exact HB.out | apply below_alloc | apply pw_below_drewN | apply below_drew1 | refine below_set ?_ GE339.out | refine below_set ?_ GE350.out) | exact HB.out))); (case side4 => exact HC0_3.out); rintro e w44 ⟨rfl, hb⟩; have n0_ := Aside0.mk (Kd.V_below (by (with_reducible repeat (first | apply Kd.V_alloc | apply Kd.V_drewN | apply Kd.V_drew)); exact (Kd.V_mono (Kd.V_far (p := ⟨gb350, 3, none⟩) (Kd.V_far (p := ⟨gb350, 2, none⟩) (Kd.V_far (p := ⟨gb350, 1, none⟩) (Kd.V_far (p := ⟨gb350, 0, none⟩) (Kd.V_mono HO347.out (fun k_ hk => (⟨hk, hk.2⟩ : _ ∧ k_ ≠ gb350))) (fun _ hk => hk.2) (.bool t342)) (fun _ hk => hk.2) (.int .u64 t343)) (fun _ hk => hk.2) (.int .u64 t344)) (fun _ hk => hk.2) (.slice Ao42 t345.length co42)) (fun _ h_ => h_.1))) hb); have n1_ := Aside0.mk (blk_below (g := gb339) (o := .cells #[.bool a0_0, .int .u64 a0_1, .int .u64 a0_2, .slice A0_3 l0_3.length c0_3] 26 (0, 0)) (by (with_reducible repeat (first | refine blk_drewN ?_ _ | refine blk_drew ?_ | refine blk_alloc ?_ _)); refine blk_far ?_ NB339_350.out _; (with_reducible repeat (first | refine blk_drewN ?_ _ | refine blk_drew ?_ | refine blk_alloc ?_ _)); refine blk_far ?_ NB339_350.out _; (with_reducible repeat (first | refine blk_drewN ?_ _ | refine blk_drew ?_ | refine blk_alloc ?_ _)); refine blk_far ?_ NB339_350.out _; (with_reducible repeat (first | refine blk_drewN ?_ _ | refine blk_drew ?_ | refine blk_alloc ?_ _)); refine blk_far ?_ NB339_350.out _; (with_reducible repeat (first | refine blk_drewN ?_ _ | refine blk_drew ?_ | refine blk_alloc ?_ _)); exact BK339.out) hb); have n2_ := Aside0.mk (blk_below (g := gb350) (o := .cells #[.bool t342, .int .u64 t343, .int .u64 t344, .slice Ao42 t345.length co42] 26 (0, 0)) (by (with_reducible repeat (first | refine blk_drewN ?_ _ | refine blk_drew ?_ | refine blk_alloc ?_ _)); refine blk_put (cs := #[.bool t342, .int .u64 t343, .int .u64 t344, .slice none 0 0]) ?_ 3 _ rfl; (with_reducible repeat (first | refine blk_drewN ?_ _ | refine blk_drew ?_ | refine blk_alloc ?_ _)); refine blk_put (cs := #[.bool t342, .int .u64 t343, .int .u64 0, .slice none 0 0]) ?_ 2 _ rfl; (with_reducible repeat (first | refine blk_drewN ?_ _ | refine blk_drew ?_ | refine blk_alloc ?_ _)); refine blk_put (cs := #[.bool t342, .int .u64 0, .int .u64 0, .slice none 0 0]) ?_ 1 _ rfl; (with_reducible repeat (first | refine blk_drewN ?_ _ | refine blk_drew ?_ | refine blk_alloc ?_ _)); refine blk_put (cs := #[.bool false, .int .u64 0, .int .u64 0, .slice none 0 0]) ?_ 0 _ rfl; (with_reducible repeat (first | refine blk_drewN ?_ _ | refine blk_drew ?_ | refine blk_alloc ?_ _)); exact BK350.out) hb); have n3_ := Aside0.mk (below_step (by repeat (first | (with_reducible first | exact HB.out | apply below_alloc | apply pw_below_drewN | apply below_drew1 | refine below_set ?_ GE339.out | refine below_set ?_ GE350.out) | exact HB.out)) hb); clear HO347; clear BK339; clear BK350; clear HB; have HO347 := n0_; have BK339 := n1_; have BK350 := n2_; have HB := n3_; clear n0_ n1_ n2_ n3_; (try clear hb); (try clear hb2); (try clear hk); (try clear hi)))
                  go_ret
                  exact ⟨by first | rfl | (simp [errW_none, errW_some] <;> rfl) | (simp [*, errW_none, errW_some] <;> rfl) | (exfalso; simp only [decide_eq_true_eq, decide_eq_false_iff_not, beq_iff_eq, bne_iff_ne, ne_eq, beq_eq_false_iff_ne, bne_eq_false_iff_eq] at *; omega), by repeat (first | (with_reducible first | exact HB.out | apply below_alloc | apply pw_below_drewN | apply below_drew1 | refine below_set ?_ GE339.out | refine below_set ?_ GE350.out) | exact HB.out)⟩
                · replace c36 := Bool.eq_false_iff.mpr c36
                  subst c36
                  have H1 : (some false) = some r := by rw [if_neg (show ¬ (false = true) by decide)] at H; exact H
                  clear H
                  have H := H1
                  clear H1
                  exact absurd ((Option.some.inj H).trans hT_.out) (by decide)
              · rw [if_neg c34] at H
                exact absurd ((Option.some.inj H).trans hT_.out) (by decide)
            · rw [if_neg c33] at H
              exact absurd ((Option.some.inj H).trans hT_.out) (by decide)
end Go.Proofs.Ytngbkagamhakiaa.Q
