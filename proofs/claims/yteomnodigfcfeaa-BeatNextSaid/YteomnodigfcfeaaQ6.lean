/- This text was written by a program of this session: what each Go function computes, as a Lean function, and that its call does so. -/
import Derived.Test.YteomnodigfcfeaaQ0
import Derived.Test.YteomnodigfcfeaaQ10
import Derived.Test.YteomnodigfcfeaaQE0
import Derived.Test.YteomnodigfcfeaaH10
import Derived.Test.YteomnodigfcfeaaH11
import Derived.Test.YteomnodigfcfeaaH13
namespace Go.Proofs.Yteomnodigfcfeaa.Q
open Go.RowKit Go.Proofs.YteomnodigfcfeaaW.PrintWords Go.Proofs.YteomnodigfcfeaaW.PrintLast Go.Proofs.YteomnodigfcfeaaW.PrintMore
attribute [local go_sem] max2_int min2_int max_two min_two max_three min_three max_four min_four   -- for this text's walks alone
set_option linter.unusedVariables false
set_option linter.unusedSimpArgs false

attribute [local go_sem high] eqA24
/-! ### interchangelaw12_BeatNext: function 6 -/
mutual
def interchangelaw12_BeatNext.j0 : Nat → List (S24) → Bool → Bool → Bool → Int → Int → Option (Bool)
  | 0, _, _, _, _, _, _ => none
  | k + 1, x0, x3, x5, x23, x279000, x279001 => if x23 = true then (if x3 = true then (if (x0.length : Int) > 200 then (some true) else (some (!x5))) else (some false)) else (interchangelaw12_BeatNext.l0 k x0 x3 x5 false 0 x279000 x279001)
def interchangelaw12_BeatNext.l0 : Nat → List (S24) → Bool → Bool → Bool → Int → Int → Int → Option (Bool)
  | 0, _, _, _, _, _, _, _ => none
  | k + 1, x0, x3, x5, x6, x7, x279000, x279001 => if x7 < (x0.length : Int) then (if x6 = true then (if 0 ≤ x7 then (if ((rd_T24 x0 x7).f0) < x279000 then (some false) else (if ((rd_T24 x0 x7).f0) = x279000 then (if ((rd_T24 x0 x7).f1) < x279001 then (some false) else (interchangelaw12_BeatNext.l0 k x0 x3 x5 true (wrap64 (x7 + 1)) x279000 x279001)) else (interchangelaw12_BeatNext.l0 k x0 x3 x5 true (wrap64 (x7 + 1)) x279000 x279001))) else (none)) else (if 0 ≤ x7 then (if ((rd_T24 x0 x7).f0) < x279000 then (some false) else (if ((rd_T24 x0 x7).f0) = x279000 then (if ((rd_T24 x0 x7).f1) < x279001 then (some false) else (interchangelaw12_BeatNext.l0 k x0 x3 x5 (((rd_T24 x0 x7).f0) == x279000 && (((rd_T24 x0 x7).f1) == x279001)) (wrap64 (x7 + 1)) x279000 x279001)) else (interchangelaw12_BeatNext.l0 k x0 x3 x5 (((rd_T24 x0 x7).f0) == x279000 && (((rd_T24 x0 x7).f1) == x279001)) (wrap64 (x7 + 1)) x279000 x279001))) else (none))) else ((beat_Take.f x0 x279000).bind fun bt286 => (if x3 = true then (if x5 = true then (if x6 = true then (if (bt286.2.length : Int) ≥ 1 then (if 0 < (bt286.2.length : Int) then (some ((rd bt286.2 0) == x279001)) else (none)) else (some false)) else (some false)) else (some false)) else (some false)))
end
def interchangelaw12_BeatNext.f (k : Nat) (l0 : List (S24)) : Option (Bool) := (interchangelaw12_shown.f).bind fun t274 => ((beat_Next.f l0).bind fun bt275 => (if (l0.length : Int) = 0 then (interchangelaw12_BeatNext.j0 k l0 true bt275.2.2 true bt275.1 bt275.2.1) else (interchangelaw12_BeatNext.j0 k l0 true bt275.2.2 (decide ((l0.length : Int) > 200)) bt275.1 bt275.2.1)))
theorem interchangelaw12_BeatNext.mono_l : ∀ k, (∀ y0 y1 y2 y3 y4 y5, LeO (interchangelaw12_BeatNext.j0 k y0 y1 y2 y3 y4 y5) (interchangelaw12_BeatNext.j0 (k + 1) y0 y1 y2 y3 y4 y5)) ∧ (∀ y0 y1 y2 y3 y4 y5 y6, LeO (interchangelaw12_BeatNext.l0 k y0 y1 y2 y3 y4 y5 y6) (interchangelaw12_BeatNext.l0 (k + 1) y0 y1 y2 y3 y4 y5 y6))
  | 0 => ⟨fun _ _ _ _ _ _ r h => by simp [interchangelaw12_BeatNext.j0] at h, fun _ _ _ _ _ _ _ r h => by simp [interchangelaw12_BeatNext.l0] at h⟩
  | k + 1 => by
    obtain ⟨ih0, ih1⟩ := interchangelaw12_BeatNext.mono_l k
    refine ⟨?_, ?_⟩
    · intro y0 y1 y2 y3 y4 y5
      unfold interchangelaw12_BeatNext.j0
      repeat' first
      | (with_reducible exact ih0 _ _ _ _ _ _)
      | (with_reducible exact ih1 _ _ _ _ _ _ _)
      | (with_reducible exact LeO.refl _)
      | (with_reducible exact LeO.none _)
      | (with_reducible refine LeO.ite ?_ ?_)
      | (with_reducible refine LeO.bind ?_ (fun _ => ?_))
      | exact ih0 _ _ _ _ _ _
      | exact ih1 _ _ _ _ _ _ _
      | exact LeO.none _
      | refine LeO.ite ?_ ?_
      | refine LeO.bind ?_ (fun _ => ?_)
    · intro y0 y1 y2 y3 y4 y5 y6
      unfold interchangelaw12_BeatNext.l0
      repeat' first
      | (with_reducible exact ih0 _ _ _ _ _ _)
      | (with_reducible exact ih1 _ _ _ _ _ _ _)
      | (with_reducible exact LeO.refl _)
      | (with_reducible exact LeO.none _)
      | (with_reducible refine LeO.ite ?_ ?_)
      | (with_reducible refine LeO.bind ?_ (fun _ => ?_))
      | exact ih0 _ _ _ _ _ _
      | exact ih1 _ _ _ _ _ _ _
      | exact LeO.none _
      | refine LeO.ite ?_ ?_
      | refine LeO.bind ?_ (fun _ => ?_)
theorem interchangelaw12_BeatNext.mono : ∀ a0 k, LeO (interchangelaw12_BeatNext.f k a0) (interchangelaw12_BeatNext.f (k + 1) a0) := by
  intro a0 k
  obtain ⟨ih0, ih1⟩ := interchangelaw12_BeatNext.mono_l k
  unfold interchangelaw12_BeatNext.f
  repeat' first
      | (with_reducible exact ih0 _ _ _ _ _ _)
      | (with_reducible exact ih1 _ _ _ _ _ _ _)
      | (with_reducible exact LeO.refl _)
      | (with_reducible exact LeO.none _)
      | (with_reducible refine LeO.ite ?_ ?_)
      | (with_reducible refine LeO.bind ?_ (fun _ => ?_))
      | exact ih0 _ _ _ _ _ _
      | exact ih1 _ _ _ _ _ _ _
      | exact LeO.none _
      | refine LeO.ite ?_ ?_
      | refine LeO.bind ?_ (fun _ => ?_)
set_option maxHeartbeats 8000000 in
set_option maxRecDepth 100000 in
theorem interchangelaw12_BeatNext.calls (k : Nat) (A0 : Option Addr) (c0 : Nat) (l0 : List (S24)) (r : Bool) (w : World) (hr0 : Kd.C k24 w A0 l0.length l0) (hc0 : l0.length ≤ c0) (hT_ : Aside0 (r = true)) (h : interchangelaw12_BeatNext.f k l0 = some r) :
    Calls Try.prog 6 #[.slice A0 l0.length c0] w fun e w' => e = .returned (.bool r) ∧ Below w.heap.size w w' := by
  have hu24 := Try.underlying24
  have HR0 := Aside0.mk hr0
  have HC0 := Aside0.mk hc0
  clear hr0 hc0
  have HB := Aside0.mk (Below.refl w.heap.size w)
  have H : ((interchangelaw12_shown.f).bind fun t274 => ((beat_Next.f l0).bind fun bt275 => (if (l0.length : Int) = 0 then (interchangelaw12_BeatNext.j0 k l0 true bt275.2.2 true bt275.1 bt275.2.1) else (interchangelaw12_BeatNext.j0 k l0 true bt275.2.2 (decide ((l0.length : Int) > 200)) bt275.1 bt275.2.1)))) = some r := h
  clear h
  replace H := Option.bind_eq_some_iff.mp H
  obtain ⟨t274, A20, H⟩ := H
  replace H : ((beat_Next.f l0).bind fun bt275 => (if (l0.length : Int) = 0 then (interchangelaw12_BeatNext.j0 k l0 true bt275.2.2 true bt275.1 bt275.2.1) else (interchangelaw12_BeatNext.j0 k l0 true bt275.2.2 (decide ((l0.length : Int) > 200)) bt275.1 bt275.2.1))) = some r := H
  obtain rfl : true = t274 := Option.some.inj (interchangelaw12_shown_true.symm.trans A20)
  have A2 := Aside0.mk A20
  clear A20
  replace H := Option.bind_eq_some_iff.mp H
  obtain ⟨⟨t275, t276, t277⟩, A30, H⟩ := H
  replace H : (if (l0.length : Int) = 0 then (interchangelaw12_BeatNext.j0 k l0 true t277 true t275 t276) else (interchangelaw12_BeatNext.j0 k l0 true t277 (decide ((l0.length : Int) > 200)) t275 t276)) = some r := H
  have A3 := Aside0.mk A30
  clear A30
  have HC4 := Aside0.mk H
  clear H
  go_enter Try.func6, Try.ntmps6
  go_upto_region 3 with (first | (go_at_call 10; (with_reducible refine (interchangelaw12_shown.calls true _ ⟨rfl⟩ A2.out).mono ?_); rintro e w5 ⟨rfl, hb⟩; have n0_ := Aside0.mk (below_step (by repeat (first | (with_reducible first | exact HB.out | apply below_alloc | apply pw_below_drewN | apply below_drew1) | exact HB.out)) hb); clear HB; have HB := n0_; clear n0_; (try clear hb); (try clear hb2); (try clear hk); (try clear hi)) | (go_at_call 13; (with_reducible refine (beat_Next.calls _ _ l0 t275 t276 t277 _ ?side1 ?side2 A3.out).mono ?_); (case side1 => repeat (first | exact (Kd.C_below HR0.out HB.out) | (with_reducible refine Kd.C_alloc ?_ _) | (with_reducible refine Kd.C_drewN ?_ _) | (with_reducible refine Kd.C_drew ?_))); (case side2 => exact HC0.out); rintro e w6 ⟨rfl, hb⟩; have n0_ := Aside0.mk (below_step (by repeat (first | (with_reducible first | exact HB.out | apply below_alloc | apply pw_below_drewN | apply below_drew1) | exact HB.out)) hb); clear HB; have HB := n0_; clear n0_; (try clear hb); (try clear hb2); (try clear hk); (try clear hi)) | ((with_reducible refine gate_dst (N := 4) rfl ?_); (try (refine gate_guard (by rfl) ?_; dsimp only)); refine box_event ?hg (N := 4) ?hd (cs := #[.int .i64 0, .int .i64 0]) (t := 24) ?hr ?_; (case hd => rfl); (case hg => rfl); (case hr => first | (go_simp; done) | (go_simp; rfl)); intro gb278 hg w7 hbox hb; have n0_ := Aside0.mk (below_step (by repeat (first | (with_reducible first | exact HB.out | apply below_alloc | apply pw_below_drewN | apply below_drew1) | exact HB.out)) hb); have n1_ := Aside0.mk (hbox); have n2_ := Aside0.mk ((by rw [hg]; exact (below_size (by repeat (first | (with_reducible first | exact HB.out | apply below_alloc | apply pw_below_drewN | apply below_drew1) | exact HB.out))) : w.heap.size ≤ gb278)); have n3_ := Aside0.mk ((by rw [hg]; exact (below_size (by repeat (first | (with_reducible first | exact HB.out | apply below_alloc | apply pw_below_drewN | apply below_drew1) | exact HB.out))) : w.heap.size ≤ gb278)); clear HB; have HB := n0_; have BK278 := n1_; have GW278 := n2_; have GE278 := n3_; clear n0_ n1_ n2_ n3_; clear hb hbox hg; have hcz8_0 : w7.cell? ⟨gb278, 0, none⟩ = some (.int .i64 0) := (blk_cell BK278.out 0).trans rfl; have hcz8_1 : w7.cell? ⟨gb278, 1, none⟩ = some (.int .i64 0) := (blk_cell BK278.out 1).trans rfl; have hfz8_0 := blk_frozen BK278.out 0; have hfz8_1 := blk_frozen BK278.out 1))
  repeat (go_quiet (first | (go_at_call 10; (with_reducible refine (interchangelaw12_shown.calls true _ ⟨rfl⟩ A2.out).mono ?_); rintro e w5 ⟨rfl, hb⟩; have n0_ := Aside0.mk (below_step (by repeat (first | (with_reducible first | exact HB.out | apply below_alloc | apply pw_below_drewN | apply below_drew1) | exact HB.out)) hb); clear HB; have HB := n0_; clear n0_; (try clear hb); (try clear hb2); (try clear hk); (try clear hi)) | (go_at_call 13; (with_reducible refine (beat_Next.calls _ _ l0 t275 t276 t277 _ ?side1 ?side2 A3.out).mono ?_); (case side1 => repeat (first | exact (Kd.C_below HR0.out HB.out) | (with_reducible refine Kd.C_alloc ?_ _) | (with_reducible refine Kd.C_drewN ?_ _) | (with_reducible refine Kd.C_drew ?_))); (case side2 => exact HC0.out); rintro e w6 ⟨rfl, hb⟩; have n0_ := Aside0.mk (below_step (by repeat (first | (with_reducible first | exact HB.out | apply below_alloc | apply pw_below_drewN | apply below_drew1) | exact HB.out)) hb); clear HB; have HB := n0_; clear n0_; (try clear hb); (try clear hb2); (try clear hk); (try clear hi)) | ((with_reducible refine gate_dst (N := 4) rfl ?_); (try (refine gate_guard (by rfl) ?_; dsimp only)); refine box_event ?hg (N := 4) ?hd (cs := #[.int .i64 0, .int .i64 0]) (t := 24) ?hr ?_; (case hd => rfl); (case hg => rfl); (case hr => first | (go_simp; done) | (go_simp; rfl)); intro gb278 hg w7 hbox hb; have n0_ := Aside0.mk (below_step (by repeat (first | (with_reducible first | exact HB.out | apply below_alloc | apply pw_below_drewN | apply below_drew1) | exact HB.out)) hb); have n1_ := Aside0.mk (hbox); have n2_ := Aside0.mk ((by rw [hg]; exact (below_size (by repeat (first | (with_reducible first | exact HB.out | apply below_alloc | apply pw_below_drewN | apply below_drew1) | exact HB.out))) : w.heap.size ≤ gb278)); have n3_ := Aside0.mk ((by rw [hg]; exact (below_size (by repeat (first | (with_reducible first | exact HB.out | apply below_alloc | apply pw_below_drewN | apply below_drew1) | exact HB.out))) : w.heap.size ≤ gb278)); clear HB; have HB := n0_; have BK278 := n1_; have GW278 := n2_; have GE278 := n3_; clear n0_ n1_ n2_ n3_; clear hb hbox hg; have hcz8_0 : w7.cell? ⟨gb278, 0, none⟩ = some (.int .i64 0) := (blk_cell BK278.out 0).trans rfl; have hcz8_1 : w7.cell? ⟨gb278, 1, none⟩ = some (.int .i64 0) := (blk_cell BK278.out 1).trans rfl; have hfz8_0 := blk_frozen BK278.out 0; have hfz8_1 := blk_frozen BK278.out 1)); go_upto_region 3 with (first | (go_at_call 10; (with_reducible refine (interchangelaw12_shown.calls true _ ⟨rfl⟩ A2.out).mono ?_); rintro e w5 ⟨rfl, hb⟩; have n0_ := Aside0.mk (below_step (by repeat (first | (with_reducible first | exact HB.out | apply below_alloc | apply pw_below_drewN | apply below_drew1) | exact HB.out)) hb); clear HB; have HB := n0_; clear n0_; (try clear hb); (try clear hb2); (try clear hk); (try clear hi)) | (go_at_call 13; (with_reducible refine (beat_Next.calls _ _ l0 t275 t276 t277 _ ?side1 ?side2 A3.out).mono ?_); (case side1 => repeat (first | exact (Kd.C_below HR0.out HB.out) | (with_reducible refine Kd.C_alloc ?_ _) | (with_reducible refine Kd.C_drewN ?_ _) | (with_reducible refine Kd.C_drew ?_))); (case side2 => exact HC0.out); rintro e w6 ⟨rfl, hb⟩; have n0_ := Aside0.mk (below_step (by repeat (first | (with_reducible first | exact HB.out | apply below_alloc | apply pw_below_drewN | apply below_drew1) | exact HB.out)) hb); clear HB; have HB := n0_; clear n0_; (try clear hb); (try clear hb2); (try clear hk); (try clear hi)) | ((with_reducible refine gate_dst (N := 4) rfl ?_); (try (refine gate_guard (by rfl) ?_; dsimp only)); refine box_event ?hg (N := 4) ?hd (cs := #[.int .i64 0, .int .i64 0]) (t := 24) ?hr ?_; (case hd => rfl); (case hg => rfl); (case hr => first | (go_simp; done) | (go_simp; rfl)); intro gb278 hg w7 hbox hb; have n0_ := Aside0.mk (below_step (by repeat (first | (with_reducible first | exact HB.out | apply below_alloc | apply pw_below_drewN | apply below_drew1) | exact HB.out)) hb); have n1_ := Aside0.mk (hbox); have n2_ := Aside0.mk ((by rw [hg]; exact (below_size (by repeat (first | (with_reducible first | exact HB.out | apply below_alloc | apply pw_below_drewN | apply below_drew1) | exact HB.out))) : w.heap.size ≤ gb278)); have n3_ := Aside0.mk ((by rw [hg]; exact (below_size (by repeat (first | (with_reducible first | exact HB.out | apply below_alloc | apply pw_below_drewN | apply below_drew1) | exact HB.out))) : w.heap.size ≤ gb278)); clear HB; have HB := n0_; have BK278 := n1_; have GW278 := n2_; have GE278 := n3_; clear n0_ n1_ n2_ n3_; clear hb hbox hg; have hcz8_0 : w7.cell? ⟨gb278, 0, none⟩ = some (.int .i64 0) := (blk_cell BK278.out 0).trans rfl; have hcz8_1 : w7.cell? ⟨gb278, 1, none⟩ = some (.int .i64 0) := (blk_cell BK278.out 1).trans rfl; have hfz8_0 := blk_frozen BK278.out 0; have hfz8_1 := blk_frozen BK278.out 1)))
  (try simp only [Act.put, List.setIfInBounds_toArray, List.set_cons_zero, List.set_cons_succ])
  go_cut [23] (fun v23 wc => ∃ (kq : Nat) (x23_3 : Bool), v23 = .bool x23_3 ∧ Aside0 (interchangelaw12_BeatNext.j0 kq l0 true t277 x23_3 t275 t276 = some r) ∧ Aside0 (kq ≤ k) ∧ Aside0 (wc.heap[gb278]? = some (.cells #[.int .i64 t275, .int .i64 t276] 24 (0, 0))) ∧ Aside0 (Below w.heap.size w wc))
  case first =>
    have H := HC4.out
    clear HC4
    by_cases c9 : (l0.length : Int) = 0
    · rw [if_pos c9] at H
      have c9b0 : ((l0.length : Int) == 0) = true := beq_iff_eq.mpr c9
      have c9b1 : ((l0.length : Int) != 0) = false := bne_eq_false_iff_eq.mpr c9
      (try (have c9b2 : (l0 = []) = True := eq_true (List.eq_nil_of_length_eq_zero (by omega))))
      clear c9
      (first | rw [c9b0] | (simp only [i64_w, i32_w]; rw [c9b0]) | skip)
      have H' := Aside0.mk H
      clear H
      go_wp2
      repeat (go_quiet (fail); try go_wp2)
      go_meet
      case rel => exact ⟨_, (true), (by first | rfl | (simp; done) | (simp [*]; done)), H', ⟨by first | omega | exact Nat.le_refl _⟩, ⟨by (with_reducible repeat (first | refine blk_drewN ?_ _ | refine blk_drew ?_ | refine blk_alloc ?_ _)); refine blk_put (cs := #[.int .i64 t275, .int .i64 0]) ?_ 1 _ rfl; (with_reducible repeat (first | refine blk_drewN ?_ _ | refine blk_drew ?_ | refine blk_alloc ?_ _)); refine blk_put (cs := #[.int .i64 0, .int .i64 0]) ?_ 0 _ rfl; (with_reducible repeat (first | refine blk_drewN ?_ _ | refine blk_drew ?_ | refine blk_alloc ?_ _)); exact BK278.out⟩, ⟨by repeat (first | (with_reducible first | exact HB.out | apply below_alloc | apply pw_below_drewN | apply below_drew1 | refine below_set ?_ GE278.out) | exact HB.out)⟩⟩
    · rw [if_neg c9] at H
      have c9b0 : ((l0.length : Int) == 0) = false := beq_eq_false_iff_ne.mpr c9
      have c9b1 : ((l0.length : Int) != 0) = true := bne_iff_ne.mpr c9
      have c9b2 : ¬ (l0 = []) := fun h_ => c9 (by rw [h_]; rfl)
      (first | rw [c9b0] | (simp only [i64_w, i32_w]; rw [c9b0]) | skip)
      have H' := Aside0.mk H
      clear H
      go_wp2
      repeat (go_quiet (fail); try go_wp2)
      go_meet
      case rel => exact ⟨_, (decide ((l0.length : Int) > 200)), (by first | rfl | (simp; done) | (simp [*]; done)), H', ⟨by first | omega | exact Nat.le_refl _⟩, ⟨by (with_reducible repeat (first | refine blk_drewN ?_ _ | refine blk_drew ?_ | refine blk_alloc ?_ _)); refine blk_put (cs := #[.int .i64 t275, .int .i64 0]) ?_ 1 _ rfl; (with_reducible repeat (first | refine blk_drewN ?_ _ | refine blk_drew ?_ | refine blk_alloc ?_ _)); refine blk_put (cs := #[.int .i64 0, .int .i64 0]) ?_ 0 _ rfl; (with_reducible repeat (first | refine blk_drewN ?_ _ | refine blk_drew ?_ | refine blk_alloc ?_ _)); exact BK278.out⟩, ⟨by repeat (first | (with_reducible first | exact HB.out | apply below_alloc | apply pw_below_drewN | apply below_drew1 | refine below_set ?_ GE278.out) | exact HB.out)⟩⟩
  case rest =>
    clear HC4
    try clear p2
    try clear c6
    try clear c9
    try clear c9b0
    try clear c9b1
    try clear c9b2
    try clear hcz8_0
    try clear hcz8_1
    try clear hfz8_0
    try clear hfz8_1
    obtain ⟨kq, x23_3, rfl, HA, HJ3, BK278, HB⟩ := hcut
    cases kq with
    | zero => exact absurd HA.out (by simp [interchangelaw12_BeatNext.j0])
    | succ kj3 =>
      have H := HA.out
      clear HA
      simp only [interchangelaw12_BeatNext.j0] at H
      by_cases c10 : x23_3 = true
      · subst c10
        have H1 : (if true = true then (if (l0.length : Int) > 200 then (some true) else (some (!t277))) else (some false)) = some r := by rw [if_pos rfl] at H; exact H
        clear H
        have H := H1
        clear H1
        have c11 : true = true := rfl
        · clear c11
          have H1 : (if (l0.length : Int) > 200 then (some true) else (some (!t277))) = some r := by first | (rw [if_pos rfl] at H; exact H) | (rw [if_pos trivial] at H; exact H)
          clear H
          have H := H1
          clear H1
          by_cases c12 : (l0.length : Int) > 200
          · rw [if_pos c12] at H
            have c12b0 : decide (200 < (l0.length : Int)) = true := decide_eq_true c12
            have c12b1 : decide (200 < l0.length) = true := decide_eq_true (by omega)
            clear c12
            obtain rfl := Option.some.inj H
            go_wp2
            repeat (go_quiet (fail); try go_wp2)
            go_ret
            exact ⟨by first | rfl | (simp [errW_none, errW_some] <;> rfl) | (simp [*, errW_none, errW_some] <;> rfl) | (exfalso; simp only [decide_eq_true_eq, decide_eq_false_iff_not, beq_iff_eq, bne_iff_ne, ne_eq, beq_eq_false_iff_ne, bne_eq_false_iff_eq] at *; omega), by repeat (first | (with_reducible first | exact HB.out | apply below_alloc | apply pw_below_drewN | apply below_drew1 | refine below_set ?_ GE278.out) | exact HB.out)⟩
          · rw [if_neg c12] at H
            have c12b0 : decide (200 < (l0.length : Int)) = false := decide_eq_false c12
            have c12b1 : decide (200 < l0.length) = false := decide_eq_false (by omega)
            clear c12
            replace H : (if t277 = true then (some false) else (some true)) = some r := by
              rw [← H]
              by_cases hc_ : t277 = true
              · rw [if_pos hc_]; exact congrArg some (Eq.symm (by first | exact bne_eq_false_iff_eq.mpr hc_ | (simp [hc_]; done) | simp_all))
              · rw [if_neg hc_]; exact congrArg some (Eq.symm (by first | exact bne_iff_ne.mpr hc_ | (simp [hc_]; done) | simp_all))
            by_cases c13 : t277 = true
            · subst c13
              have H1 : (some false) = some r := by rw [if_pos rfl] at H; exact H
              clear H
              have H := H1
              clear H1
              exact absurd ((Option.some.inj H).trans hT_.out) (by decide)
            · replace c13 := Bool.eq_false_iff.mpr c13
              subst c13
              have H1 : (some true) = some r := by rw [if_neg (show ¬ (false = true) by decide)] at H; exact H
              clear H
              have H := H1
              clear H1
              obtain rfl := Option.some.inj H
              go_wp2
              repeat (go_quiet (fail); try go_wp2)
              go_ret
              exact ⟨by first | rfl | (simp [errW_none, errW_some] <;> rfl) | (simp [*, errW_none, errW_some] <;> rfl) | (exfalso; simp only [decide_eq_true_eq, decide_eq_false_iff_not, beq_iff_eq, bne_iff_ne, ne_eq, beq_eq_false_iff_ne, bne_eq_false_iff_eq] at *; omega), by repeat (first | (with_reducible first | exact HB.out | apply below_alloc | apply pw_below_drewN | apply below_drew1 | refine below_set ?_ GE278.out) | exact HB.out)⟩
      · replace c10 := Bool.eq_false_iff.mpr c10
        subst c10
        have H1 : (interchangelaw12_BeatNext.l0 kj3 l0 true t277 false 0 t275 t276) = some r := by rw [if_neg (show ¬ (false = true) by decide)] at H; exact H
        clear H
        have H := H1
        clear H1
        have H' := Aside0.mk H
        clear H
        go_wp2
        repeat (go_quiet (fail); try go_wp2)
        go_loopg [6, 7] kj3 (fun kq v6 v7 w' => ∃ (x6_2 : Bool) (x7_2 : Int), v6 = .bool x6_2 ∧ v7 = .int .i64 x7_2 ∧ Aside0 (interchangelaw12_BeatNext.l0 kq l0 true t277 x6_2 x7_2 t275 t276 = some r) ∧ Aside0 (kq ≤ kj3) ∧ Aside0 (w'.heap[gb278]? = some (.cells #[.int .i64 t275, .int .i64 t276] 24 (0, 0))) ∧ Aside0 (Below w.heap.size w w'))
        case atStart => exact ⟨(false), (0), (by first | rfl | (simp; done) | (simp [*]; done)), (by first | rfl | (simp; done) | (simp [*]; done)), H', ⟨Nat.le_refl _⟩, ⟨by (with_reducible repeat (first | refine blk_drewN ?_ _ | refine blk_drew ?_ | refine blk_alloc ?_ _)); exact BK278.out⟩, ⟨by repeat (first | (with_reducible first | exact HB.out | apply below_alloc | apply pw_below_drewN | apply below_drew1 | refine below_set ?_ GE278.out) | exact HB.out)⟩⟩
        case round =>
          clear H'
          try clear c1
          try clear p2
          try clear c6
          try clear c9
          try clear c9b0
          try clear c9b1
          try clear c9b2
          try clear c10
          try clear c11
          try clear c12
          try clear c12b0
          try clear c12b1
          try clear c13
          try clear hcz8_0
          try clear hcz8_1
          try clear hfz8_0
          try clear hfz8_1
          try clear p2
          obtain ⟨x6_2, x7_2, rfl, rfl, HA, HK2, BK278, HB⟩ := hrel
          cases gk with
          | zero => exact absurd HA.out (by simp [interchangelaw12_BeatNext.l0])
          | succ k2 =>
            have H := HA.out
            clear HA
            simp only [interchangelaw12_BeatNext.l0] at H
            by_cases c14 : x7_2 < (l0.length : Int)
            · rw [if_pos c14] at H
              have c14b0 : decide (x7_2 < (l0.length : Int)) = true := decide_eq_true c14
              clear c14
              by_cases c15 : x6_2 = true
              · subst c15
                have H1 : (if 0 ≤ x7_2 then (if ((rd_T24 l0 x7_2).f0) < t275 then (some false) else (if ((rd_T24 l0 x7_2).f0) = t275 then (if ((rd_T24 l0 x7_2).f1) < t276 then (some false) else (interchangelaw12_BeatNext.l0 k2 l0 true t277 true (wrap64 (x7_2 + 1)) t275 t276)) else (interchangelaw12_BeatNext.l0 k2 l0 true t277 true (wrap64 (x7_2 + 1)) t275 t276))) else (none)) = some r := by rw [if_pos rfl] at H; exact H
                clear H
                have H := H1
                clear H1
                by_cases c16 : 0 ≤ x7_2
                · rw [if_pos c16] at H
                  have c16b0 : decide (0 ≤ x7_2) = true := decide_eq_true c16
                  clear c16
                  by_cases c17 : ((rd_T24 l0 x7_2).f0) < t275
                  · rw [if_pos c17] at H
                    exact absurd ((Option.some.inj H).trans hT_.out) (by decide)
                  · rw [if_neg c17] at H
                    have c17b0 : decide (((rd_T24 l0 x7_2).f0) < t275) = false := decide_eq_false c17
                    clear c17
                    by_cases c18 : ((rd_T24 l0 x7_2).f0) = t275
                    · rw [if_pos c18] at H
                      have c18b0 : (((rd_T24 l0 x7_2).f0) == t275) = true := beq_iff_eq.mpr c18
                      have c18b1 : (((rd_T24 l0 x7_2).f0) != t275) = false := bne_eq_false_iff_eq.mpr c18
                      clear c18
                      by_cases c19 : ((rd_T24 l0 x7_2).f1) < t276
                      · rw [if_pos c19] at H
                        exact absurd ((Option.some.inj H).trans hT_.out) (by decide)
                      · rw [if_neg c19] at H
                        have c19b0 : decide (((rd_T24 l0 x7_2).f1) < t276) = false := decide_eq_false c19
                        clear c19
                        have H' := Aside0.mk H
                        clear H
                        have p279 : 0 ≤ (x7_2 : Int) := of_decide_eq_true (by first | (with_reducible assumption) | assumption)
                        have q279 : x7_2 < (l0.length : Int) := of_decide_eq_true (by first | (with_reducible assumption) | assumption)
                        obtain ⟨ad279, e279, hx279_0, hx279_1⟩ := at_T24 HR0.out x7_2 p279 q279
                        cases e279
                        replace hx279_0 := (HB.out.cell (World.block_lt_of_cell? w _ hx279_0)).trans hx279_0
                        replace hx279_1 := (HB.out.cell (World.block_lt_of_cell? w _ hx279_1)).trans hx279_1
                        replace p279 := eq_true p279
                        replace q279 := eq_true q279
                        have hcz20_0 : wr.cell? ⟨gb278, 0, none⟩ = some (.int .i64 t275) := (blk_cell BK278.out 0).trans rfl
                        have hcz20_1 : wr.cell? ⟨gb278, 1, none⟩ = some (.int .i64 t276) := (blk_cell BK278.out 1).trans rfl
                        have hfz20_0 := blk_frozen BK278.out 0
                        have hfz20_1 := blk_frozen BK278.out 1
                        have p280 : 0 ≤ (x7_2 : Int) := of_decide_eq_true (by first | (with_reducible assumption) | assumption)
                        have q280 : x7_2 < (l0.length : Int) := of_decide_eq_true (by first | (with_reducible assumption) | assumption)
                        obtain ⟨ad280, e280, hx280_0, hx280_1⟩ := at_T24 HR0.out x7_2 p280 q280
                        obtain rfl : ad279 = ad280 := (by injection e280)
                        replace hx280_0 := (HB.out.cell (World.block_lt_of_cell? w _ hx280_0)).trans hx280_0
                        replace hx280_1 := (HB.out.cell (World.block_lt_of_cell? w _ hx280_1)).trans hx280_1
                        replace p280 := eq_true p280
                        replace q280 := eq_true q280
                        have p281 : 0 ≤ (x7_2 : Int) := of_decide_eq_true (by first | (with_reducible assumption) | assumption)
                        have q281 : x7_2 < (l0.length : Int) := of_decide_eq_true (by first | (with_reducible assumption) | assumption)
                        obtain ⟨ad281, e281, hx281_0, hx281_1⟩ := at_T24 HR0.out x7_2 p281 q281
                        obtain rfl : ad279 = ad281 := (by injection e281)
                        replace hx281_0 := (HB.out.cell (World.block_lt_of_cell? w _ hx281_0)).trans hx281_0
                        replace hx281_1 := (HB.out.cell (World.block_lt_of_cell? w _ hx281_1)).trans hx281_1
                        replace p281 := eq_true p281
                        replace q281 := eq_true q281
                        go_wp2
                        repeat (go_quiet (fail); try go_wp2)
                        go_roundg k2
                        case measure => have := HJ3.out; have := HK2.out; omega
                        case rel => exact ⟨(true), (wrap64 (x7_2 + 1)), (by first | rfl | (simp; done) | (simp [*]; done)), (by first | rfl | (simp; done) | (simp [*]; done)), H', ⟨by have := HJ3.out; have := HK2.out; omega⟩, ⟨by (with_reducible repeat (first | refine blk_drewN ?_ _ | refine blk_drew ?_ | refine blk_alloc ?_ _)); exact BK278.out⟩, ⟨by repeat (first | (with_reducible first | exact HB.out | apply below_alloc | apply pw_below_drewN | apply below_drew1 | refine below_set ?_ GE278.out) | exact HB.out)⟩⟩
                    · rw [if_neg c18] at H
                      have c18b0 : (((rd_T24 l0 x7_2).f0) == t275) = false := beq_eq_false_iff_ne.mpr c18
                      have c18b1 : (((rd_T24 l0 x7_2).f0) != t275) = true := bne_iff_ne.mpr c18
                      have H' := Aside0.mk H
                      clear H
                      have p279 : 0 ≤ (x7_2 : Int) := of_decide_eq_true (by first | (with_reducible assumption) | assumption)
                      have q279 : x7_2 < (l0.length : Int) := of_decide_eq_true (by first | (with_reducible assumption) | assumption)
                      obtain ⟨ad279, e279, hx279_0, hx279_1⟩ := at_T24 HR0.out x7_2 p279 q279
                      cases e279
                      replace hx279_0 := (HB.out.cell (World.block_lt_of_cell? w _ hx279_0)).trans hx279_0
                      replace hx279_1 := (HB.out.cell (World.block_lt_of_cell? w _ hx279_1)).trans hx279_1
                      replace p279 := eq_true p279
                      replace q279 := eq_true q279
                      have hcz21_0 : wr.cell? ⟨gb278, 0, none⟩ = some (.int .i64 t275) := (blk_cell BK278.out 0).trans rfl
                      have hcz21_1 : wr.cell? ⟨gb278, 1, none⟩ = some (.int .i64 t276) := (blk_cell BK278.out 1).trans rfl
                      have hfz21_0 := blk_frozen BK278.out 0
                      have hfz21_1 := blk_frozen BK278.out 1
                      have p280 : 0 ≤ (x7_2 : Int) := of_decide_eq_true (by first | (with_reducible assumption) | assumption)
                      have q280 : x7_2 < (l0.length : Int) := of_decide_eq_true (by first | (with_reducible assumption) | assumption)
                      obtain ⟨ad280, e280, hx280_0, hx280_1⟩ := at_T24 HR0.out x7_2 p280 q280
                      obtain rfl : ad279 = ad280 := (by injection e280)
                      replace hx280_0 := (HB.out.cell (World.block_lt_of_cell? w _ hx280_0)).trans hx280_0
                      replace hx280_1 := (HB.out.cell (World.block_lt_of_cell? w _ hx280_1)).trans hx280_1
                      replace p280 := eq_true p280
                      replace q280 := eq_true q280
                      go_wp2
                      repeat (go_quiet (fail); try go_wp2)
                      go_roundg k2
                      case measure => have := HJ3.out; have := HK2.out; omega
                      case rel => exact ⟨(true), (wrap64 (x7_2 + 1)), (by first | rfl | (simp; done) | (simp [*]; done)), (by first | rfl | (simp; done) | (simp [*]; done)), H', ⟨by have := HJ3.out; have := HK2.out; omega⟩, ⟨by (with_reducible repeat (first | refine blk_drewN ?_ _ | refine blk_drew ?_ | refine blk_alloc ?_ _)); exact BK278.out⟩, ⟨by repeat (first | (with_reducible first | exact HB.out | apply below_alloc | apply pw_below_drewN | apply below_drew1 | refine below_set ?_ GE278.out) | exact HB.out)⟩⟩
                · rw [if_neg c16] at H
                  exact absurd H (by simp)
              · replace c15 := Bool.eq_false_iff.mpr c15
                subst c15
                have H1 : (if 0 ≤ x7_2 then (if ((rd_T24 l0 x7_2).f0) < t275 then (some false) else (if ((rd_T24 l0 x7_2).f0) = t275 then (if ((rd_T24 l0 x7_2).f1) < t276 then (some false) else (interchangelaw12_BeatNext.l0 k2 l0 true t277 (((rd_T24 l0 x7_2).f0) == t275 && (((rd_T24 l0 x7_2).f1) == t276)) (wrap64 (x7_2 + 1)) t275 t276)) else (interchangelaw12_BeatNext.l0 k2 l0 true t277 (((rd_T24 l0 x7_2).f0) == t275 && (((rd_T24 l0 x7_2).f1) == t276)) (wrap64 (x7_2 + 1)) t275 t276))) else (none)) = some r := by rw [if_neg (show ¬ (false = true) by decide)] at H; exact H
                clear H
                have H := H1
                clear H1
                by_cases c22 : 0 ≤ x7_2
                · rw [if_pos c22] at H
                  have c22b0 : decide (0 ≤ x7_2) = true := decide_eq_true c22
                  clear c22
                  by_cases c23 : ((rd_T24 l0 x7_2).f0) < t275
                  · rw [if_pos c23] at H
                    exact absurd ((Option.some.inj H).trans hT_.out) (by decide)
                  · rw [if_neg c23] at H
                    have c23b0 : decide (((rd_T24 l0 x7_2).f0) < t275) = false := decide_eq_false c23
                    clear c23
                    by_cases c24 : ((rd_T24 l0 x7_2).f0) = t275
                    · rw [if_pos c24] at H
                      have c24b0 : (((rd_T24 l0 x7_2).f0) == t275) = true := beq_iff_eq.mpr c24
                      have c24b1 : (((rd_T24 l0 x7_2).f0) != t275) = false := bne_eq_false_iff_eq.mpr c24
                      clear c24
                      by_cases c25 : ((rd_T24 l0 x7_2).f1) < t276
                      · rw [if_pos c25] at H
                        exact absurd ((Option.some.inj H).trans hT_.out) (by decide)
                      · rw [if_neg c25] at H
                        have c25b0 : decide (((rd_T24 l0 x7_2).f1) < t276) = false := decide_eq_false c25
                        clear c25
                        have H' := Aside0.mk H
                        clear H
                        have p282 : 0 ≤ (x7_2 : Int) := of_decide_eq_true (by first | (with_reducible assumption) | assumption)
                        have q282 : x7_2 < (l0.length : Int) := of_decide_eq_true (by first | (with_reducible assumption) | assumption)
                        obtain ⟨ad282, e282, hx282_0, hx282_1⟩ := at_T24 HR0.out x7_2 p282 q282
                        cases e282
                        replace hx282_0 := (HB.out.cell (World.block_lt_of_cell? w _ hx282_0)).trans hx282_0
                        replace hx282_1 := (HB.out.cell (World.block_lt_of_cell? w _ hx282_1)).trans hx282_1
                        replace p282 := eq_true p282
                        replace q282 := eq_true q282
                        have hcz26_0 : wr.cell? ⟨gb278, 0, none⟩ = some (.int .i64 t275) := (blk_cell BK278.out 0).trans rfl
                        have hcz26_1 : wr.cell? ⟨gb278, 1, none⟩ = some (.int .i64 t276) := (blk_cell BK278.out 1).trans rfl
                        have hfz26_0 := blk_frozen BK278.out 0
                        have hfz26_1 := blk_frozen BK278.out 1
                        have p283 : 0 ≤ (x7_2 : Int) := of_decide_eq_true (by first | (with_reducible assumption) | assumption)
                        have q283 : x7_2 < (l0.length : Int) := of_decide_eq_true (by first | (with_reducible assumption) | assumption)
                        obtain ⟨ad283, e283, hx283_0, hx283_1⟩ := at_T24 HR0.out x7_2 p283 q283
                        obtain rfl : ad282 = ad283 := (by injection e283)
                        replace hx283_0 := (HB.out.cell (World.block_lt_of_cell? w _ hx283_0)).trans hx283_0
                        replace hx283_1 := (HB.out.cell (World.block_lt_of_cell? w _ hx283_1)).trans hx283_1
                        replace p283 := eq_true p283
                        replace q283 := eq_true q283
                        have p284 : 0 ≤ (x7_2 : Int) := of_decide_eq_true (by first | (with_reducible assumption) | assumption)
                        have q284 : x7_2 < (l0.length : Int) := of_decide_eq_true (by first | (with_reducible assumption) | assumption)
                        obtain ⟨ad284, e284, hx284_0, hx284_1⟩ := at_T24 HR0.out x7_2 p284 q284
                        obtain rfl : ad282 = ad284 := (by injection e284)
                        replace hx284_0 := (HB.out.cell (World.block_lt_of_cell? w _ hx284_0)).trans hx284_0
                        replace hx284_1 := (HB.out.cell (World.block_lt_of_cell? w _ hx284_1)).trans hx284_1
                        replace p284 := eq_true p284
                        replace q284 := eq_true q284
                        have p285 : 0 ≤ (x7_2 : Int) := of_decide_eq_true (by first | (with_reducible assumption) | assumption)
                        have q285 : x7_2 < (l0.length : Int) := of_decide_eq_true (by first | (with_reducible assumption) | assumption)
                        obtain ⟨ad285, e285, hx285_0, hx285_1⟩ := at_T24 HR0.out x7_2 p285 q285
                        obtain rfl : ad282 = ad285 := (by injection e285)
                        replace hx285_0 := (HB.out.cell (World.block_lt_of_cell? w _ hx285_0)).trans hx285_0
                        replace hx285_1 := (HB.out.cell (World.block_lt_of_cell? w _ hx285_1)).trans hx285_1
                        replace p285 := eq_true p285
                        replace q285 := eq_true q285
                        go_wp2
                        repeat (go_quiet (fail); try go_wp2)
                        go_roundg k2
                        case measure => have := HJ3.out; have := HK2.out; omega
                        case rel => exact ⟨((((rd_T24 l0 x7_2).f0) == t275 && (((rd_T24 l0 x7_2).f1) == t276))), (wrap64 (x7_2 + 1)), (by first | rfl | (simp; done) | (simp [*]; done)), (by first | rfl | (simp; done) | (simp [*]; done)), H', ⟨by have := HJ3.out; have := HK2.out; omega⟩, ⟨by (with_reducible repeat (first | refine blk_drewN ?_ _ | refine blk_drew ?_ | refine blk_alloc ?_ _)); exact BK278.out⟩, ⟨by repeat (first | (with_reducible first | exact HB.out | apply below_alloc | apply pw_below_drewN | apply below_drew1 | refine below_set ?_ GE278.out) | exact HB.out)⟩⟩
                    · rw [if_neg c24] at H
                      have c24b0 : (((rd_T24 l0 x7_2).f0) == t275) = false := beq_eq_false_iff_ne.mpr c24
                      have c24b1 : (((rd_T24 l0 x7_2).f0) != t275) = true := bne_iff_ne.mpr c24
                      have H' := Aside0.mk H
                      clear H
                      have p282 : 0 ≤ (x7_2 : Int) := of_decide_eq_true (by first | (with_reducible assumption) | assumption)
                      have q282 : x7_2 < (l0.length : Int) := of_decide_eq_true (by first | (with_reducible assumption) | assumption)
                      obtain ⟨ad282, e282, hx282_0, hx282_1⟩ := at_T24 HR0.out x7_2 p282 q282
                      cases e282
                      replace hx282_0 := (HB.out.cell (World.block_lt_of_cell? w _ hx282_0)).trans hx282_0
                      replace hx282_1 := (HB.out.cell (World.block_lt_of_cell? w _ hx282_1)).trans hx282_1
                      replace p282 := eq_true p282
                      replace q282 := eq_true q282
                      have hcz27_0 : wr.cell? ⟨gb278, 0, none⟩ = some (.int .i64 t275) := (blk_cell BK278.out 0).trans rfl
                      have hcz27_1 : wr.cell? ⟨gb278, 1, none⟩ = some (.int .i64 t276) := (blk_cell BK278.out 1).trans rfl
                      have hfz27_0 := blk_frozen BK278.out 0
                      have hfz27_1 := blk_frozen BK278.out 1
                      have p283 : 0 ≤ (x7_2 : Int) := of_decide_eq_true (by first | (with_reducible assumption) | assumption)
                      have q283 : x7_2 < (l0.length : Int) := of_decide_eq_true (by first | (with_reducible assumption) | assumption)
                      obtain ⟨ad283, e283, hx283_0, hx283_1⟩ := at_T24 HR0.out x7_2 p283 q283
                      obtain rfl : ad282 = ad283 := (by injection e283)
                      replace hx283_0 := (HB.out.cell (World.block_lt_of_cell? w _ hx283_0)).trans hx283_0
                      replace hx283_1 := (HB.out.cell (World.block_lt_of_cell? w _ hx283_1)).trans hx283_1
                      replace p283 := eq_true p283
                      replace q283 := eq_true q283
                      have p284 : 0 ≤ (x7_2 : Int) := of_decide_eq_true (by first | (with_reducible assumption) | assumption)
                      have q284 : x7_2 < (l0.length : Int) := of_decide_eq_true (by first | (with_reducible assumption) | assumption)
                      obtain ⟨ad284, e284, hx284_0, hx284_1⟩ := at_T24 HR0.out x7_2 p284 q284
                      obtain rfl : ad282 = ad284 := (by injection e284)
                      replace hx284_0 := (HB.out.cell (World.block_lt_of_cell? w _ hx284_0)).trans hx284_0
                      replace hx284_1 := (HB.out.cell (World.block_lt_of_cell? w _ hx284_1)).trans hx284_1
                      replace p284 := eq_true p284
                      replace q284 := eq_true q284
                      go_wp2
                      repeat (go_quiet (fail); try go_wp2)
                      go_roundg k2
                      case measure => have := HJ3.out; have := HK2.out; omega
                      case rel => exact ⟨((((rd_T24 l0 x7_2).f0) == t275 && (((rd_T24 l0 x7_2).f1) == t276))), (wrap64 (x7_2 + 1)), (by first | rfl | (simp; done) | (simp [*]; done)), (by first | rfl | (simp; done) | (simp [*]; done)), H', ⟨by have := HJ3.out; have := HK2.out; omega⟩, ⟨by (with_reducible repeat (first | refine blk_drewN ?_ _ | refine blk_drew ?_ | refine blk_alloc ?_ _)); exact BK278.out⟩, ⟨by repeat (first | (with_reducible first | exact HB.out | apply below_alloc | apply pw_below_drewN | apply below_drew1 | refine below_set ?_ GE278.out) | exact HB.out)⟩⟩
                · rw [if_neg c22] at H
                  exact absurd H (by simp)
            · rw [if_neg c14] at H
              have c14b0 : decide (x7_2 < (l0.length : Int)) = false := decide_eq_false c14
              clear c14
              replace H := Option.bind_eq_some_iff.mp H
              obtain ⟨⟨t286, t287⟩, A280, H⟩ := H
              replace H : (if true = true then (if t277 = true then (if x6_2 = true then (if (t287.length : Int) ≥ 1 then (if 0 < (t287.length : Int) then (some ((rd t287 0) == t276)) else (none)) else (some false)) else (some false)) else (some false)) else (some false)) = some r := H
              have A28 := Aside0.mk A280
              clear A280
              have c29 : true = true := rfl
              · clear c29
                have H1 : (if t277 = true then (if x6_2 = true then (if (t287.length : Int) ≥ 1 then (if 0 < (t287.length : Int) then (some ((rd t287 0) == t276)) else (none)) else (some false)) else (some false)) else (some false)) = some r := by first | (rw [if_pos rfl] at H; exact H) | (rw [if_pos trivial] at H; exact H)
                clear H
                have H := H1
                clear H1
                by_cases c30 : t277 = true
                · subst c30
                  have H1 : (if x6_2 = true then (if (t287.length : Int) ≥ 1 then (if 0 < (t287.length : Int) then (some ((rd t287 0) == t276)) else (none)) else (some false)) else (some false)) = some r := by rw [if_pos rfl] at H; exact H
                  clear H
                  have H := H1
                  clear H1
                  by_cases c31 : x6_2 = true
                  · subst c31
                    have H1 : (if (t287.length : Int) ≥ 1 then (if 0 < (t287.length : Int) then (some ((rd t287 0) == t276)) else (none)) else (some false)) = some r := by rw [if_pos rfl] at H; exact H
                    clear H
                    have H := H1
                    clear H1
                    by_cases c32 : (t287.length : Int) ≥ 1
                    · rw [if_pos c32] at H
                      have c32b0 : decide (1 ≤ (t287.length : Int)) = true := decide_eq_true c32
                      have c32b1 : decide (1 ≤ t287.length) = true := decide_eq_true (by omega)
                      clear c32
                      by_cases c33 : 0 < (t287.length : Int)
                      · rw [if_pos c33] at H
                        have c33b0 : decide (0 < (t287.length : Int)) = true := decide_eq_true c33
                        have c33b1 : decide (0 < t287.length) = true := decide_eq_true (by omega)
                        clear c33
                        replace H : (if (rd t287 0) = t276 then (some true) else (some false)) = some r := by
                          rw [← H]
                          by_cases hc_ : (rd t287 0) = t276
                          · rw [if_pos hc_]; exact congrArg some (Eq.symm (by first | exact decide_eq_true hc_ | exact beq_iff_eq.mpr hc_ | exact hc_ | (simp [hc_]; done) | simp_all))
                          · rw [if_neg hc_]; exact congrArg some (Eq.symm (by first | exact decide_eq_false hc_ | exact beq_eq_false_iff_ne.mpr hc_ | exact Bool.eq_false_iff.mpr hc_ | (simp [hc_]; done) | simp_all))
                        by_cases c34 : (rd t287 0) = t276
                        · rw [if_pos c34] at H
                          have c34b0 : ((rd t287 0) == t276) = true := beq_iff_eq.mpr c34
                          have c34b1 : ((rd t287 0) != t276) = false := bne_eq_false_iff_eq.mpr c34
                          clear c34
                          obtain rfl := Option.some.inj H
                          have hcz35_0 : wr.cell? ⟨gb278, 0, none⟩ = some (.int .i64 t275) := (blk_cell BK278.out 0).trans rfl
                          have hcz35_1 : wr.cell? ⟨gb278, 1, none⟩ = some (.int .i64 t276) := (blk_cell BK278.out 1).trans rfl
                          have hfz35_0 := blk_frozen BK278.out 0
                          have hfz35_1 := blk_frozen BK278.out 1
                          go_wp2_with (first | (go_at_call 11; (with_reducible refine (beat_Take.calls _ _ l0 t275 t286 t287 _ ?side1 ?side2 A28.out).mono ?_); (case side1 => repeat (first | exact (Kd.C_below HR0.out HB.out) | (with_reducible refine Kd.C_alloc ?_ _) | (with_reducible refine Kd.C_drewN ?_ _) | (with_reducible refine Kd.C_drew ?_))); (case side2 => exact HC0.out); rintro e w36 ⟨v288, v290, rfl, ho0, ho1, hb⟩; have n0_ := Aside0.mk (Kd.R_lower (Kd.R_newB ho0 (g := gb278) (o := .cells #[.int .i64 t275, .int .i64 t276] 24 (0, 0)) (by (with_reducible repeat (first | refine blk_drewN ?_ _ | refine blk_drew ?_ | refine blk_alloc ?_ _)); exact BK278.out)) (below_size (by repeat (first | (with_reducible first | exact HB.out | apply below_alloc | apply pw_below_drewN | apply below_drew1 | refine below_set ?_ GE278.out) | exact HB.out)))); have n1_ := Aside0.mk (Kd.R_lower ho1 (below_size (by repeat (first | (with_reducible first | exact HB.out | apply below_alloc | apply pw_below_drewN | apply below_drew1 | refine below_set ?_ GE278.out) | exact HB.out)))); have n2_ := Aside0.mk (blk_below (g := gb278) (o := .cells #[.int .i64 t275, .int .i64 t276] 24 (0, 0)) (by (with_reducible repeat (first | refine blk_drewN ?_ _ | refine blk_drew ?_ | refine blk_alloc ?_ _)); exact BK278.out) hb); have n3_ := Aside0.mk (below_step (by repeat (first | (with_reducible first | exact HB.out | apply below_alloc | apply pw_below_drewN | apply below_drew1 | refine below_set ?_ GE278.out) | exact HB.out)) hb); clear BK278; clear HB; have HO289 := n0_; have HO291 := n1_; have BK278 := n2_; have HB := n3_; clear n0_ n1_ n2_ n3_; (try clear hb); (try clear hb2); (try clear hk); (try clear hi); (try clear ho0); (try clear ho1); obtain ⟨Ao37, co37, eo37⟩ := Kd.R_slice HO291.out; subst eo37; have p292 : 0 ≤ (0 : Int) := (by omega); have q292 : 0 < (t287.length : Int) := of_decide_eq_true (by first | (with_reducible assumption) | assumption); obtain ⟨ad292, e292, hx292_0⟩ := Kd.at_int (Kd.R_reads' HO291.out).2.2 0 p292 q292; cases e292; have qi292 : (0 < t287.length) = True := eq_true (by omega); (try rw [show ((0 : Int)).toNat = 0 from rfl] at hx292_0); (try rw [Addr.add_zero'] at hx292_0); replace p292 := eq_true p292; replace q292 := eq_true q292; have hcz38_0 : w36.cell? ⟨gb278, 0, none⟩ = some (.int .i64 t275) := (blk_cell BK278.out 0).trans rfl; have hcz38_1 : w36.cell? ⟨gb278, 1, none⟩ = some (.int .i64 t276) := (blk_cell BK278.out 1).trans rfl; have hfz38_0 := blk_frozen BK278.out 0; have hfz38_1 := blk_frozen BK278.out 1))
                          repeat (go_quiet (first | (go_at_call 11; (with_reducible refine (beat_Take.calls _ _ l0 t275 t286 t287 _ ?side1 ?side2 A28.out).mono ?_); (case side1 => repeat (first | exact (Kd.C_below HR0.out HB.out) | (with_reducible refine Kd.C_alloc ?_ _) | (with_reducible refine Kd.C_drewN ?_ _) | (with_reducible refine Kd.C_drew ?_))); (case side2 => exact HC0.out); rintro e w36 ⟨v288, v290, rfl, ho0, ho1, hb⟩; have n0_ := Aside0.mk (Kd.R_lower (Kd.R_newB ho0 (g := gb278) (o := .cells #[.int .i64 t275, .int .i64 t276] 24 (0, 0)) (by (with_reducible repeat (first | refine blk_drewN ?_ _ | refine blk_drew ?_ | refine blk_alloc ?_ _)); exact BK278.out)) (below_size (by repeat (first | (with_reducible first | exact HB.out | apply below_alloc | apply pw_below_drewN | apply below_drew1 | refine below_set ?_ GE278.out) | exact HB.out)))); have n1_ := Aside0.mk (Kd.R_lower ho1 (below_size (by repeat (first | (with_reducible first | exact HB.out | apply below_alloc | apply pw_below_drewN | apply below_drew1 | refine below_set ?_ GE278.out) | exact HB.out)))); have n2_ := Aside0.mk (blk_below (g := gb278) (o := .cells #[.int .i64 t275, .int .i64 t276] 24 (0, 0)) (by (with_reducible repeat (first | refine blk_drewN ?_ _ | refine blk_drew ?_ | refine blk_alloc ?_ _)); exact BK278.out) hb); have n3_ := Aside0.mk (below_step (by repeat (first | (with_reducible first | exact HB.out | apply below_alloc | apply pw_below_drewN | apply below_drew1 | refine below_set ?_ GE278.out) | exact HB.out)) hb); clear BK278; clear HB; have HO289 := n0_; have HO291 := n1_; have BK278 := n2_; have HB := n3_; clear n0_ n1_ n2_ n3_; (try clear hb); (try clear hb2); (try clear hk); (try clear hi); (try clear ho0); (try clear ho1); obtain ⟨Ao37, co37, eo37⟩ := Kd.R_slice HO291.out; subst eo37; have p292 : 0 ≤ (0 : Int) := (by omega); have q292 : 0 < (t287.length : Int) := of_decide_eq_true (by first | (with_reducible assumption) | assumption); obtain ⟨ad292, e292, hx292_0⟩ := Kd.at_int (Kd.R_reads' HO291.out).2.2 0 p292 q292; cases e292; have qi292 : (0 < t287.length) = True := eq_true (by omega); (try rw [show ((0 : Int)).toNat = 0 from rfl] at hx292_0); (try rw [Addr.add_zero'] at hx292_0); replace p292 := eq_true p292; replace q292 := eq_true q292; have hcz38_0 : w36.cell? ⟨gb278, 0, none⟩ = some (.int .i64 t275) := (blk_cell BK278.out 0).trans rfl; have hcz38_1 : w36.cell? ⟨gb278, 1, none⟩ = some (.int .i64 t276) := (blk_cell BK278.out 1).trans rfl; have hfz38_0 := blk_frozen BK278.out 0; have hfz38_1 := blk_frozen BK278.out 1)); try go_wp2_with (first | (go_at_call 11; (with_reducible refine (beat_Take.calls _ _ l0 t275 t286 t287 _ ?side1 ?side2 A28.out).mono ?_); (case side1 => repeat (first | exact (Kd.C_below HR0.out HB.out) | (with_reducible refine Kd.C_alloc ?_ _) | (with_reducible refine Kd.C_drewN ?_ _) | (with_reducible refine Kd.C_drew ?_))); (case side2 => exact HC0.out); rintro e w36 ⟨v288, v290, rfl, ho0, ho1, hb⟩; have n0_ := Aside0.mk (Kd.R_lower (Kd.R_newB ho0 (g := gb278) (o := .cells #[.int .i64 t275, .int .i64 t276] 24 (0, 0)) (by (with_reducible repeat (first | refine blk_drewN ?_ _ | refine blk_drew ?_ | refine blk_alloc ?_ _)); exact BK278.out)) (below_size (by repeat (first | (with_reducible first | exact HB.out | apply below_alloc | apply pw_below_drewN | apply below_drew1 | refine below_set ?_ GE278.out) | exact HB.out)))); have n1_ := Aside0.mk (Kd.R_lower ho1 (below_size (by repeat (first | (with_reducible first | exact HB.out | apply below_alloc | apply pw_below_drewN | apply below_drew1 | refine below_set ?_ GE278.out) | exact HB.out)))); have n2_ := Aside0.mk (blk_below (g := gb278) (o := .cells #[.int .i64 t275, .int .i64 t276] 24 (0, 0)) (by (with_reducible repeat (first | refine blk_drewN ?_ _ | refine blk_drew ?_ | refine blk_alloc ?_ _)); exact BK278.out) hb); have n3_ := Aside0.mk (below_step (by repeat (first | (with_reducible first | exact HB.out | apply below_alloc | apply pw_below_drewN | apply below_drew1 | refine below_set ?_ GE278.out) | exact HB.out)) hb); clear BK278; clear HB; have HO289 := n0_; have HO291 := n1_; have BK278 := n2_; have HB := n3_; clear n0_ n1_ n2_ n3_; (try clear hb); (try clear hb2); (try clear hk); (try clear hi); (try clear ho0); (try clear ho1); obtain ⟨Ao37, co37, eo37⟩ := Kd.R_slice HO291.out; subst eo37; have p292 : 0 ≤ (0 : Int) := (by omega); have q292 : 0 < (t287.length : Int) := of_decide_eq_true (by first | (with_reducible assumption) | assumption); obtain ⟨ad292, e292, hx292_0⟩ := Kd.at_int (Kd.R_reads' HO291.out).2.2 0 p292 q292; cases e292; have qi292 : (0 < t287.length) = True := eq_true (by omega); (try rw [show ((0 : Int)).toNat = 0 from rfl] at hx292_0); (try rw [Addr.add_zero'] at hx292_0); replace p292 := eq_true p292; replace q292 := eq_true q292; have hcz38_0 : w36.cell? ⟨gb278, 0, none⟩ = some (.int .i64 t275) := (blk_cell BK278.out 0).trans rfl; have hcz38_1 : w36.cell? ⟨gb278, 1, none⟩ = some (.int .i64 t276) := (blk_cell BK278.out 1).trans rfl; have hfz38_0 := blk_frozen BK278.out 0; have hfz38_1 := blk_frozen BK278.out 1)))
                          go_ret
                          exact ⟨by first | rfl | (simp [errW_none, errW_some] <;> rfl) | (simp [*, errW_none, errW_some] <;> rfl) | (exfalso; simp only [decide_eq_true_eq, decide_eq_false_iff_not, beq_iff_eq, bne_iff_ne, ne_eq, beq_eq_false_iff_ne, bne_eq_false_iff_eq] at *; omega), by repeat (first | (with_reducible first | exact HB.out | apply below_alloc | apply pw_below_drewN | apply below_drew1 | refine below_set ?_ GE278.out) | exact HB.out)⟩
                        · rw [if_neg c34] at H
                          exact absurd ((Option.some.inj H).trans hT_.out) (by decide)
                      · rw [if_neg c33] at H
                        exact absurd H (by simp)
                    · rw [if_neg c32] at H
                      exact absurd ((Option.some.inj H).trans hT_.out) (by decide)
                  · replace c31 := Bool.eq_false_iff.mpr c31
                    subst c31
                    have H1 : (some false) = some r := by rw [if_neg (show ¬ (false = true) by decide)] at H; exact H
                    clear H
                    have H := H1
                    clear H1
                    exact absurd ((Option.some.inj H).trans hT_.out) (by decide)
                · replace c30 := Bool.eq_false_iff.mpr c30
                  subst c30
                  have H1 : (some false) = some r := by rw [if_neg (show ¬ (false = true) by decide)] at H; exact H
                  clear H
                  have H := H1
                  clear H1
                  exact absurd ((Option.some.inj H).trans hT_.out) (by decide)
end Go.Proofs.Yteomnodigfcfeaa.Q
