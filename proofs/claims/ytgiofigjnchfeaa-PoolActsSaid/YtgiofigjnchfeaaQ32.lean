/- This text was written by a program of this session: what each Go function computes, as a Lean function, and that its call does so. -/
import Derived.Test.YtgiofigjnchfeaaQ0
import Derived.Test.YtgiofigjnchfeaaV
namespace Go.Proofs.Ytgiofigjnchfeaa.Q
open Go.RowKit Go.Proofs.YtgiofigjnchfeaaW.PrintWords Go.Proofs.YtgiofigjnchfeaaW.PrintLast Go.Proofs.YtgiofigjnchfeaaW.PrintMore
attribute [local go_sem] max2_int min2_int max_two min_two max_three min_three max_four min_four   -- for this text's walks alone
set_option linter.unusedVariables false
set_option linter.unusedSimpArgs false

/-! ### interchangeref13_Down: function 32 -/
mutual
def interchangeref13_Down.j0 : Nat → Int → Bool → List Int → List (S29) → Option (List Int × (List (S29)) × List Int)
  | 0, _, _, _, _ => none
  | k + 1, x1, x17, x548000, x548001 => if x17 = true then (some (x548000, x548001, ([] : List Int))) else ((some (([] : List Int) : List Int)).bind fun y549 => (if y549.length + x548000.length < 17592186044416 then ((some (y549 ++ x548000 : List Int)).bind fun y552 => (if 0 ≤ x1 then (if x1 < (y552.length : Int) then (interchangeref13_Down.l0 k x1 ([] : List Int) 0 x548000 x548001 (y552.set (x1 : Int).toNat 0) ([] : List (S29))) else (none)) else (none))) else (none)))
def interchangeref13_Down.l0 : Nat → Int → List Int → Int → List Int → List (S29) → List Int → List (S29) → Option (List Int × (List (S29)) × List Int)
  | 0, _, _, _, _, _, _, _ => none
  | k + 1, x1, x7, x8, x548000, x548001, x556000, x556001 => if x8 < (x548001.length : Int) then (if 0 ≤ x8 then (if ((rd_T29 x548001 x8).f0) = x1 then (if ((rd_T29 x548001 x8).f3) = 0 then (interchangeref13_Down.l0 k x1 x7 (wrap64 (x8 + 1)) x548000 x548001 x556000 x556001) else (if x7.length < 17592186044416 then (interchangeref13_Down.l0 k x1 (x7 ++ [(rd_T29 x548001 x8).f3]) (wrap64 (x8 + 1)) x548000 x548001 x556000 x556001) else (none))) else (if x556001.length < 4398046511104 then (interchangeref13_Down.l0 k x1 x7 (wrap64 (x8 + 1)) x548000 x548001 x556000 (x556001 ++ [(⟨(rd_T29 x548001 x8).f0, (rd_T29 x548001 x8).f1, (rd_T29 x548001 x8).f2, (rd_T29 x548001 x8).f3⟩ : S29)])) else (none))) else (none)) else (some (x556000, x556001, x7))
end
def interchangeref13_Down.f (k : Nat) (l0_0 : List Int) (l0_1 : List (S29)) (a1 : Int) : Option (List Int × (List (S29)) × List Int) := if a1 < 0 then (interchangeref13_Down.j0 k a1 true l0_0 l0_1) else (interchangeref13_Down.j0 k a1 (decide (a1 ≥ (l0_0.length : Int))) l0_0 l0_1)
theorem interchangeref13_Down.mono_l : ∀ k, (∀ y0 y1 y2 y3, LeO (interchangeref13_Down.j0 k y0 y1 y2 y3) (interchangeref13_Down.j0 (k + 1) y0 y1 y2 y3)) ∧ (∀ y0 y1 y2 y3 y4 y5 y6, LeO (interchangeref13_Down.l0 k y0 y1 y2 y3 y4 y5 y6) (interchangeref13_Down.l0 (k + 1) y0 y1 y2 y3 y4 y5 y6))
  | 0 => ⟨fun _ _ _ _ r h => by simp [interchangeref13_Down.j0] at h, fun _ _ _ _ _ _ _ r h => by simp [interchangeref13_Down.l0] at h⟩
  | k + 1 => by
    obtain ⟨ih0, ih1⟩ := interchangeref13_Down.mono_l k
    refine ⟨?_, ?_⟩
    · intro y0 y1 y2 y3
      unfold interchangeref13_Down.j0
      repeat' first
      | (with_reducible exact ih0 _ _ _ _)
      | (with_reducible exact ih1 _ _ _ _ _ _ _)
      | (with_reducible exact LeO.refl _)
      | (with_reducible exact LeO.none _)
      | (with_reducible refine LeO.ite ?_ ?_)
      | (with_reducible refine LeO.bind ?_ (fun _ => ?_))
      | exact ih0 _ _ _ _
      | exact ih1 _ _ _ _ _ _ _
      | exact LeO.none _
      | refine LeO.ite ?_ ?_
      | refine LeO.bind ?_ (fun _ => ?_)
    · intro y0 y1 y2 y3 y4 y5 y6
      unfold interchangeref13_Down.l0
      repeat' first
      | (with_reducible exact ih0 _ _ _ _)
      | (with_reducible exact ih1 _ _ _ _ _ _ _)
      | (with_reducible exact LeO.refl _)
      | (with_reducible exact LeO.none _)
      | (with_reducible refine LeO.ite ?_ ?_)
      | (with_reducible refine LeO.bind ?_ (fun _ => ?_))
      | exact ih0 _ _ _ _
      | exact ih1 _ _ _ _ _ _ _
      | exact LeO.none _
      | refine LeO.ite ?_ ?_
      | refine LeO.bind ?_ (fun _ => ?_)
theorem interchangeref13_Down.mono : ∀ a0 a1 a2 k, LeO (interchangeref13_Down.f k a0 a1 a2) (interchangeref13_Down.f (k + 1) a0 a1 a2) := by
  intro a0 a1 a2 k
  obtain ⟨ih0, ih1⟩ := interchangeref13_Down.mono_l k
  unfold interchangeref13_Down.f
  repeat' first
      | (with_reducible exact ih0 _ _ _ _)
      | (with_reducible exact ih1 _ _ _ _ _ _ _)
      | (with_reducible exact LeO.refl _)
      | (with_reducible exact LeO.none _)
      | (with_reducible refine LeO.ite ?_ ?_)
      | (with_reducible refine LeO.bind ?_ (fun _ => ?_))
      | exact ih0 _ _ _ _
      | exact ih1 _ _ _ _ _ _ _
      | exact LeO.none _
      | refine LeO.ite ?_ ?_
      | refine LeO.bind ?_ (fun _ => ?_)
def interchangeref13_Down.T10 : Bool × List (List Nat × List Nat) := (true, [([], []), ([0], [0]), ([], []), ([2], [2]), ([], []), ([3, 4], [3, 4]), ([5], [5]), ([6], [6]), ([1, 7], [1, 7]), ([0, 1, 2, 3, 4, 5, 6, 7, 8], []), ([9, 8, 8, 0, 1, 2, 3, 4, 5, 6, 7, 8], [8, 9])])
def interchangeref13_Down.B10 : List Nat := [0, 1, 0, 4, 0, 28, 60, 124, 255, 511, 1023]
theorem interchangeref13_Down.tab10 : rtab .any (opsOf Try.f32 10) = interchangeref13_Down.T10 := by kernel_rfl
theorem interchangeref13_Down.bits10 : waitsOk interchangeref13_Down.T10.2 interchangeref13_Down.B10 = true := by kernel_rfl
set_option maxHeartbeats 8000000 in
set_option maxRecDepth 100000 in
theorem interchangeref13_Down.calls (k : Nat) (P0_0_ : Nat → Prop) (A0_0 : Option Addr) (c0_0 : Nat) (l0_0 : List Int) (P0_1_ : Nat → Prop) (A0_1 : Option Addr) (c0_1 : Nat) (l0_1 : List (S29)) (a1 : Int) (r1 : List Int) (r2 : List (S29)) (r3 : List Int) (w : World) (hs0_0 : Kd.V (Kd.int .i64) 3 w w.heap.size (fun k_ => P0_0_ k_) (.slice A0_0 l0_0.length c0_0) l0_0) (hs0_1 : Kd.V k29 29 w w.heap.size (fun k_ => P0_1_ k_) (.slice A0_1 l0_1.length c0_1) l0_1) (h : interchangeref13_Down.f k l0_0 l0_1 a1 = some (r1, r2, r3)) :
    Calls Try.prog 32 #[.agg #[.slice A0_0 l0_0.length c0_0, .slice A0_1 l0_1.length c0_1], .int .i64 a1] w fun e w' => ∃ v0_ v1_ v2_ : Value, e = .returned (.tuple #[.agg #[v0_, v1_], v2_]) ∧ Kd.V (Kd.int .i64) 3 w' w.heap.size (fun k_ => ((P0_0_ k_ ∨ P0_1_ k_) ∨ w.heap.size ≤ k_) ∧ some k_ ≠ (v2_ : Value).ownBlock) v0_ r1 ∧ Kd.V k29 29 w' w.heap.size (fun k_ => ((P0_0_ k_ ∨ P0_1_ k_) ∨ w.heap.size ≤ k_) ∧ some k_ ≠ (v2_ : Value).ownBlock) v1_ r2 ∧ Kd.R (Kd.int .i64) 3 w' w.heap.size (fun k_ => (w.heap.size ≤ k_)) v2_ r3 ∧ Below w.heap.size w w' := by
  have hu25 := Try.underlying25
  have hu29 := Try.underlying29
  have HO0_0 := Aside0.mk (show Kd.V (Kd.int .i64) 3 w w.heap.size (fun k_ => ((P0_0_ k_ ∨ P0_1_ k_) ∨ w.heap.size ≤ k_)) (.slice A0_0 l0_0.length c0_0) l0_0 from Kd.V_mono hs0_0 (fun k_ hk => .inl (.inl hk)))
  have HO0_1 := Aside0.mk (show Kd.V k29 29 w w.heap.size (fun k_ => ((P0_0_ k_ ∨ P0_1_ k_) ∨ w.heap.size ≤ k_)) (.slice A0_1 l0_1.length c0_1) l0_1 from Kd.V_mono hs0_1 (fun k_ hk => .inl (.inr hk)))
  have HB := Aside0.mk (Below.refl w.heap.size w)
  have H : (if a1 < 0 then (interchangeref13_Down.j0 k a1 true l0_0 l0_1) else (interchangeref13_Down.j0 k a1 (decide (a1 ≥ (l0_0.length : Int))) l0_0 l0_1)) = some (r1, r2, r3) := h
  clear h
  have HC3 := Aside0.mk H
  clear H
  go_enter Try.func32, Try.ntmps32
  go_upto_region 1 with (first | ((with_reducible refine gate_dst (N := 2) rfl ?_); (try (refine gate_guard (by rfl) ?_; dsimp only)); refine box_event ?hg (N := 2) ?hd (cs := #[.slice A0_0 l0_0.length c0_0, .slice A0_1 l0_1.length c0_1]) (t := 25) ?hr ?_; (case hd => rfl); (case hg => rfl); (case hr => first | (go_simp; done) | (go_simp; rfl)); intro gb547 hg w4 hbox hb; have n0_ := Aside0.mk (Kd.V_below (Kd.V_elderB (vk HO0_0.out) gb547 (Nat.le_of_eq hg.symm)) hb); have n1_ := Aside0.mk (Kd.V_below (Kd.V_elderB (vk HO0_1.out) gb547 (Nat.le_of_eq hg.symm)) hb); have n2_ := Aside0.mk (below_step (bl HB.out) hb); have n3_ := Aside0.mk (hbox); have n4_ := Aside0.mk ((by rw [hg]; exact (below_size (bl HB.out)) : w.heap.size ≤ gb547)); have n5_ := Aside0.mk ((by rw [hg]; exact (below_size (bl HB.out)) : w.heap.size ≤ gb547)); clear HO0_0; clear HO0_1; clear HB; have HO0_0 := n0_; have HO0_1 := n1_; have HB := n2_; have BK547 := n3_; have GW547 := n4_; have GE547 := n5_; clear n0_ n1_ n2_ n3_ n4_ n5_; clear hb hbox hg) | ((with_reducible refine gate_dst (N := 4) rfl ?_); (try (refine gate_guard (by rfl) ?_; dsimp only)); refine box_event ?hg (N := 4) ?hd (cs := #[.slice none 0 0, .slice none 0 0]) (t := 25) ?hr ?_; (case hd => rfl); (case hg => rfl); (case hr => first | (go_simp; done) | (go_simp; rfl)); intro gb548 hg w5 hbox hb; have n0_ := Aside0.mk (Kd.V_below (Kd.V_elderB (vk HO0_0.out) gb548 (Nat.le_of_eq hg.symm)) hb); have n1_ := Aside0.mk (Kd.V_below (Kd.V_elderB (vk HO0_1.out) gb548 (Nat.le_of_eq hg.symm)) hb); have n2_ := Aside0.mk (blk_below (bk BK547.out) hb); have n3_ := Aside0.mk (below_step (by repeat (first | (with_reducible first | exact HB.out | apply bA | apply bN | apply bD | refine bS ?_ ‹_›) | exact HB.out)) hb); have n4_ := Aside0.mk (hbox); have n5_ := Aside0.mk ((by rw [hg]; exact (below_size (by repeat (first | (with_reducible first | exact HB.out | apply bA | apply bN | apply bD | refine bS ?_ ‹_›) | exact HB.out))) : w.heap.size ≤ gb548)); have n6_ := Aside0.mk ((by rw [hg]; exact (below_size (by repeat (first | (with_reducible first | exact HB.out | apply bA | apply bN | apply bD | refine bS ?_ ‹_›) | exact HB.out))) : w.heap.size ≤ gb548)); have n7_ := Aside0.mk ((by rw [hg]; exact Nat.ne_of_lt (blk_lt (bk BK547.out)) : gb547 ≠ gb548)); have n8_ := Aside0.mk ((by rw [hg]; exact Nat.ne_of_gt (blk_lt (bk BK547.out)) : gb548 ≠ gb547)); clear HO0_0; clear HO0_1; clear BK547; clear HB; have HO0_0 := n0_; have HO0_1 := n1_; have BK547 := n2_; have HB := n3_; have BK548 := n4_; have GW548 := n5_; have GE548 := n6_; have NB547_548 := n7_; have NB548_547 := n8_; clear n0_ n1_ n2_ n3_ n4_ n5_ n6_ n7_ n8_; clear hb hbox hg))
  (try simp only [Act.put, List.setIfInBounds_toArray, List.set_cons_zero, List.set_cons_succ])
  go_cut [17] (fun v17 wc => ∃ (kq : Nat) (x17_2 : Bool), v17 = .bool x17_2 ∧ Aside0 (interchangeref13_Down.j0 kq a1 x17_2 l0_0 l0_1 = some (r1, r2, r3)) ∧ Aside0 (kq ≤ k) ∧ Aside0 (Kd.V (Kd.int .i64) 3 wc w.heap.size (fun k_ => ((P0_0_ k_ ∨ P0_1_ k_) ∨ w.heap.size ≤ k_) ∧ k_ ≠ gb547 ∧ k_ ≠ gb548) (.slice A0_0 l0_0.length c0_0) l0_0) ∧ Aside0 (Kd.V k29 29 wc w.heap.size (fun k_ => ((P0_0_ k_ ∨ P0_1_ k_) ∨ w.heap.size ≤ k_) ∧ k_ ≠ gb547 ∧ k_ ≠ gb548) (.slice A0_1 l0_1.length c0_1) l0_1) ∧ Aside0 (wc.heap[gb547]? = some (.cells #[(.slice A0_0 l0_0.length c0_0), (.slice A0_1 l0_1.length c0_1)] 25 (0, 0))) ∧ Aside0 (wc.heap[gb548]? = some (.cells #[(.slice none 0 0), (.slice none 0 0)] 25 (0, 0))) ∧ Aside0 (Below w.heap.size w wc))
  case first =>
    have H := HC3.out
    clear HC3
    by_cases c6 : a1 < 0
    · rw [if_pos c6] at H
      have c6b0 : decide (a1 < 0) = true := decide_eq_true c6
      clear c6
      (first | rw [c6b0] | (simp only [i64_w, i32_w]; rw [c6b0]) | skip)
      have H' := Aside0.mk H
      clear H
      go_wp2
      go_meet
      case rel => exact ⟨_, (true), (by first | rfl | (simp; done) | (simp [*]; done)), H', ⟨by first | omega | exact Nat.le_refl _⟩, ⟨by (with_reducible repeat (first | apply Kd.V_alloc | apply Kd.V_drewN | apply Kd.V_drew)); exact Kd.V_mono HO0_0.out (fun _ hk => ⟨hk.1.1, ⟨hk.1.2, hk.2⟩⟩)⟩, ⟨by (with_reducible repeat (first | apply Kd.V_alloc | apply Kd.V_drewN | apply Kd.V_drew)); exact Kd.V_mono HO0_1.out (fun _ hk => ⟨hk.1.1, ⟨hk.1.2, hk.2⟩⟩)⟩, ⟨by (with_reducible repeat (first | refine blk_drewN ?_ _ | refine blk_drew ?_ | refine blk_alloc ?_ _)); exact BK547.out⟩, ⟨by (with_reducible repeat (first | refine blk_drewN ?_ _ | refine blk_drew ?_ | refine blk_alloc ?_ _)); exact BK548.out⟩, ⟨by repeat (first | (with_reducible first | exact HB.out | apply below_alloc | apply pw_below_drewN | apply below_drew1 | refine below_set ?_ GE547.out | refine below_set ?_ GE548.out) | exact HB.out)⟩⟩
    · rw [if_neg c6] at H
      have c6b0 : decide (a1 < 0) = false := decide_eq_false c6
      clear c6
      (first | rw [c6b0] | (simp only [i64_w, i32_w]; rw [c6b0]) | skip)
      have H' := Aside0.mk H
      clear H
      have hnb7 := NB547_548.out
      have hnc7 := NB548_547.out
      have hcz8_0 : w5.cell? ⟨gb547, 0, none⟩ = some (.slice A0_0 l0_0.length c0_0) := (blk_cell BK547.out 0).trans rfl
      have hcz8_1 : w5.cell? ⟨gb547, 1, none⟩ = some (.slice A0_1 l0_1.length c0_1) := (blk_cell BK547.out 1).trans rfl
      have hfz8_0 := blk_frozen BK547.out 0
      have hfz8_1 := blk_frozen BK547.out 1
      go_wp2
      go_meet
      case rel => exact ⟨_, (decide (a1 ≥ (l0_0.length : Int))), (by first | rfl | (simp; done) | (simp [*]; done)), H', ⟨by first | omega | exact Nat.le_refl _⟩, ⟨by (with_reducible repeat (first | apply Kd.V_alloc | apply Kd.V_drewN | apply Kd.V_drew)); exact Kd.V_mono HO0_0.out (fun _ hk => ⟨hk.1.1, ⟨hk.1.2, hk.2⟩⟩)⟩, ⟨by (with_reducible repeat (first | apply Kd.V_alloc | apply Kd.V_drewN | apply Kd.V_drew)); exact Kd.V_mono HO0_1.out (fun _ hk => ⟨hk.1.1, ⟨hk.1.2, hk.2⟩⟩)⟩, ⟨by (with_reducible repeat (first | refine blk_drewN ?_ _ | refine blk_drew ?_ | refine blk_alloc ?_ _)); exact BK547.out⟩, ⟨by (with_reducible repeat (first | refine blk_drewN ?_ _ | refine blk_drew ?_ | refine blk_alloc ?_ _)); exact BK548.out⟩, ⟨by repeat (first | (with_reducible first | exact HB.out | apply below_alloc | apply pw_below_drewN | apply below_drew1 | refine below_set ?_ GE547.out | refine below_set ?_ GE548.out) | exact HB.out)⟩⟩
  case rest =>
    clear HC3
    try clear p2
    try clear c3
    try clear c6
    try clear c6b0
    try clear c7
    try clear hcz8_0
    try clear hcz8_1
    try clear hfz8_0
    try clear hfz8_1
    obtain ⟨kq, x17_2, rfl, HA, HJ2, HO_548000, HO_548001, BK547, BK548, HB⟩ := hcut
    cases kq with
    | zero => exact absurd HA.out (by simp [interchangeref13_Down.j0])
    | succ kj2 =>
      have H := HA.out
      clear HA
      simp only [interchangeref13_Down.j0] at H
      by_cases c9 : x17_2 = true
      · subst c9
        have H1 : (some (l0_0, l0_1, ([] : List Int))) = some (r1, r2, r3) := by rw [if_pos rfl] at H; exact H
        clear H
        have H := H1
        clear H1
        simp only [Option.some.injEq, Prod.mk.injEq] at H
        obtain ⟨rfl, rfl, rfl⟩ := H
        have hnb10 := NB547_548.out
        have hnc10 := NB548_547.out
        have hcz11_0 : wc.cell? ⟨gb547, 0, none⟩ = some (.slice A0_0 l0_0.length c0_0) := (blk_cell BK547.out 0).trans rfl
        have hcz11_1 : wc.cell? ⟨gb547, 1, none⟩ = some (.slice A0_1 l0_1.length c0_1) := (blk_cell BK547.out 1).trans rfl
        have hfz11_0 := blk_frozen BK547.out 0
        have hfz11_1 := blk_frozen BK547.out 1
        have hcz12_0 : wc.cell? ⟨gb548, 0, none⟩ = some (.slice none 0 0) := (blk_cell BK548.out 0).trans rfl
        have hcz12_1 : wc.cell? ⟨gb548, 1, none⟩ = some (.slice none 0 0) := (blk_cell BK548.out 1).trans rfl
        have hfz12_0 := blk_frozen BK548.out 0
        have hfz12_1 := blk_frozen BK548.out 1
        go_wp2
        refine bodyPost_ret (results_ct rfl _ _ gb548 25 #[.slice A0_0 l0_0.length c0_0, .slice A0_1 l0_1.length c0_1] (0, 0) _ rfl (by (with_reducible repeat (first | refine blk_drewN ?_ _ | refine blk_drew ?_ | refine blk_alloc ?_ _)); refine blk_put (cs := #[.slice A0_0 l0_0.length c0_0, .slice none 0 0]) ?_ 1 _ rfl; (with_reducible repeat (first | refine blk_drewN ?_ _ | refine blk_drew ?_ | refine blk_alloc ?_ _)); refine blk_put (cs := #[.slice none 0 0, .slice none 0 0]) ?_ 0 _ rfl; (with_reducible repeat (first | refine blk_drewN ?_ _ | refine blk_drew ?_ | refine blk_alloc ?_ _)); exact BK548.out) Try.underlying25 rfl (by kernel_rfl)) rfl ?_
        exact ⟨_, _, _, by first | rfl | (simp [errW_none, errW_some] <;> rfl) | (simp [*, errW_none, errW_some] <;> rfl), by (with_reducible repeat (first | apply Kd.V_alloc | apply Kd.V_drewN | apply Kd.V_drew)); exact Kd.V_mono (Kd.V_far (p := ⟨gb548, 1, none⟩) (Kd.V_far (p := ⟨gb548, 0, none⟩) (Kd.V_mono HO_548000.out (fun k_ hk => (⟨hk, hk.2.2⟩ : _ ∧ k_ ≠ gb548))) (fun _ hk => hk.2) (.slice A0_0 l0_0.length c0_0)) (fun _ hk => hk.2) (.slice A0_1 l0_1.length c0_1)) (fun _ hk => ⟨hk.1.1, (by simp [Value.ownBlock])⟩), by (with_reducible repeat (first | apply Kd.V_alloc | apply Kd.V_drewN | apply Kd.V_drew)); exact Kd.V_mono (Kd.V_far (p := ⟨gb548, 1, none⟩) (Kd.V_far (p := ⟨gb548, 0, none⟩) (Kd.V_mono HO_548001.out (fun k_ hk => (⟨hk, hk.2.2⟩ : _ ∧ k_ ≠ gb548))) (fun _ hk => hk.2) (.slice A0_0 l0_0.length c0_0)) (fun _ hk => hk.2) (.slice A0_1 l0_1.length c0_1)) (fun _ hk => ⟨hk.1.1, (by simp [Value.ownBlock])⟩), by first | exact Kd.R_nil _ _ _ _ _ | exact Kd.N_nil _ _ _ _ _ | exact Kd.V_nil _ _ _ _ _ | exact Kd.Q_nil _ _ _ _ _ | exact Kd.S_nil _ _ _ _ _, by repeat (first | (with_reducible first | exact HB.out | apply below_alloc | apply pw_below_drewN | apply below_drew1 | refine below_set ?_ GE547.out | refine below_set ?_ GE548.out) | exact HB.out)⟩
      · replace c9 := Bool.eq_false_iff.mpr c9
        subst c9
        have H1 : ((some (([] : List Int) : List Int)).bind fun y549 => (if y549.length + l0_0.length < 17592186044416 then ((some (y549 ++ l0_0 : List Int)).bind fun y552 => (if 0 ≤ a1 then (if a1 < (y552.length : Int) then (interchangeref13_Down.l0 kj2 a1 ([] : List Int) 0 l0_0 l0_1 (y552.set (a1 : Int).toNat 0) ([] : List (S29))) else (none)) else (none))) else (none))) = some (r1, r2, r3) := by rw [if_neg (show ¬ (false = true) by decide)] at H; exact H
        clear H
        have H := H1
        clear H1
        obtain ⟨y549, hy549⟩ : ∃ y_ : List Int, y_ = (([] : List Int)) := ⟨_, rfl⟩
        replace H : (if y549.length + l0_0.length < 17592186044416 then ((some (y549 ++ l0_0 : List Int)).bind fun y552 => (if 0 ≤ a1 then (if a1 < (y552.length : Int) then (interchangeref13_Down.l0 kj2 a1 ([] : List Int) 0 l0_0 l0_1 (y552.set (a1 : Int).toNat 0) ([] : List (S29))) else (none)) else (none))) else (none)) = some (r1, r2, r3) := by first | (rw [hy549]; with_reducible exact H) | (have H2_ := (Option.bind_some _ _).symm.trans H; rw [hy549]; with_reducible exact H2_) | (have H2_ := (Option.bind_some _ _).symm.trans H; with_reducible exact H2_) | with_reducible exact H | (rw [hy549]; exact H) | exact H
        have Ny549 := Aside0.mk hy549
        clear hy549
        by_cases c13 : y549.length + l0_0.length < 17592186044416
        · rw [if_pos c13] at H
          have LMc13 := Aside0.mk c13
          clear c13
          obtain ⟨y552, hy552⟩ : ∃ y_ : List Int, y_ = (y549 ++ l0_0) := ⟨_, rfl⟩
          replace H : (if 0 ≤ a1 then (if a1 < (y552.length : Int) then (interchangeref13_Down.l0 kj2 a1 ([] : List Int) 0 l0_0 l0_1 (y552.set (a1 : Int).toNat 0) ([] : List (S29))) else (none)) else (none)) = some (r1, r2, r3) := by first | (rw [hy552]; with_reducible exact H) | (have H2_ := (Option.bind_some _ _).symm.trans H; rw [hy552]; with_reducible exact H2_) | (have H2_ := (Option.bind_some _ _).symm.trans H; with_reducible exact H2_) | with_reducible exact H | (rw [hy552]; exact H) | exact H
          have Ny552 := Aside0.mk hy552
          clear hy552
          by_cases c14 : 0 ≤ a1
          · rw [if_pos c14] at H
            have c14b0 : decide (0 ≤ a1) = true := decide_eq_true c14
            clear c14
            by_cases c15 : a1 < (y552.length : Int)
            · rw [if_pos c15] at H
              have c15b0 : decide (a1 < (y552.length : Int)) = true := decide_eq_true c15
              clear c15
              obtain ⟨y556, hy556⟩ : ∃ y_ : List Int, y_ = (y552.set (a1 : Int).toNat 0) := ⟨_, rfl⟩
              replace H : (interchangeref13_Down.l0 kj2 a1 ([] : List Int) 0 l0_0 l0_1 y556 ([] : List (S29))) = some (r1, r2, r3) := by first | (rw [hy556]; with_reducible exact H) | (have H2_ := (Option.bind_some _ _).symm.trans H; rw [hy556]; with_reducible exact H2_) | (have H2_ := (Option.bind_some _ _).symm.trans H; with_reducible exact H2_) | with_reducible exact H | (rw [hy556]; exact H) | exact H
              have Ny556 := Aside0.mk hy556
              clear hy556
              have H' := Aside0.mk H
              clear H
              go_wp2_with (first | ((with_reducible refine gate_dst (N := 19) rfl ?_); (try (refine gate_guard (by rfl) ?_; dsimp only)); refine Kd.R_lit (Kd.int .i64) _ 3 ?hg (N := 19) ?hd (xs := ([] : List Int)) (inner := []) (ok := fun _ => True) (okp := fun _ => True) ?hr ?hp (fun _ hk => hk) trivial (Below.refl _ _) (Nat.le_refl _) (by simp) ?_; (case hd => rfl); (case hg => rfl); (case hr => first | (go_simp; done) | (go_simp; rfl)); (case hp => exact (Reps.none _ _)); intro v550 w17 ho18 hb hg_ hnew_; clear hg_ hnew_; (first | rw [← Ny549.out] at ho18 | (simp only [Int.reduceToNat] at ho18; rw [← Ny549.out] at ho18)); have n0_ := Aside0.mk (Kd.V_elder' (vk HO_548000.out) (Kd.R_base ho18) hb); have n1_ := Aside0.mk (Kd.V_elder' (vk HO_548001.out) (Kd.R_base ho18) hb); have n2_ := Aside0.mk (Kd.R_lower (Kd.R_newM (M := fun k_ => (w.heap.size ≤ k_)) ho18 (below_size (by repeat (first | (with_reducible first | exact HB.out | apply bA | apply bN | apply bD | refine bS ?_ ‹_›) | exact HB.out))) (fun k_ h_ => h_)) (below_size (by repeat (first | (with_reducible first | exact HB.out | apply bA | apply bN | apply bD | refine bS ?_ ‹_›) | exact HB.out)))); have n3_ := Aside0.mk (blk_below (bk BK547.out) hb); have n4_ := Aside0.mk (blk_below (bk BK548.out) hb); have n5_ := Aside0.mk (below_step (by repeat (first | (with_reducible first | exact HB.out | apply bA | apply bN | apply bD | refine bS ?_ ‹_›) | exact HB.out)) hb); clear HO_548000; clear HO_548001; clear BK547; clear BK548; clear HB; have HO_548000 := n0_; have HO_548001 := n1_; have HO551 := n2_; have BK547 := n3_; have BK548 := n4_; have HB := n5_; clear n0_ n1_ n2_ n3_ n4_ n5_; clear hb ho18; have hnb19 := NB547_548.out; have hnc19 := NB548_547.out; have hcz20_0 : w17.cell? ⟨gb547, 0, none⟩ = some (.slice A0_0 l0_0.length c0_0) := (blk_cell BK547.out 0).trans rfl; have hcz20_1 : w17.cell? ⟨gb547, 1, none⟩ = some (.slice A0_1 l0_1.length c0_1) := (blk_cell BK547.out 1).trans rfl; have hfz20_0 := blk_frozen BK547.out 0; have hfz20_1 := blk_frozen BK547.out 1) | ((with_reducible refine gate_builtin (b := .append) (xs := #[.tmp 19, .tmp 21]) rfl ?_); (try (refine gate_guard (by rfl) ?_; dsimp only)); at_builtin; refine Kd.R_append_rows (Kd.int .i64) (w0 := w) w.heap.size rfl (.tmp 19) (.tmp 21) 22 3 (.int .i64 0) 8 rfl Try.underlying22 info3 rfl (by decide) (by omega) v550 y549 l0_0 _ _ _ (fun k_ => (w.heap.size ≤ k_)) (fun _ => False) rfl rfl ?aO ?aR (fun _ _ h => h) (fun _ h => h.elim) ?aF ?aB ?aS ?aL ?_; (case aR => repeat (first | exact (Kd.V_reads' HO_548000.out).2.2 | (with_reducible refine Kd.C_alloc ?_ _) | (with_reducible refine Kd.C_drewN ?_ _) | (with_reducible refine Kd.C_drew ?_))); (case aB => exact (by repeat (first | (with_reducible first | exact HB.out | apply bA | apply bN | apply bD | refine bS ?_ ‹_›) | exact HB.out))); (case aF => exact (fun k_ hk => (Nat.le_trans (below_size (by repeat (first | (with_reducible first | exact HB.out | apply bA | apply bN | apply bD | refine bS ?_ ‹_›) | exact HB.out))) hk))); (case aO => exact (by (with_reducible repeat (first | apply Kd.R_alloc | apply Kd.R_drewN | apply Kd.R_drew)); exact Kd.R_mono HO551.out (fun _ hk => hk.1))); (case aS => exact (below_size (by repeat (first | (with_reducible first | exact HB.out | apply bA | apply bN | apply bD | refine bS ?_ ‹_›) | exact HB.out)))); (case aL => have := LMc13.out; omega); intro v553 w21 ho hb hg hat; rw [← Ny552.out] at ho; have n0_ := Aside0.mk (Kd.V_afterv (ok := (fun k_ => ((P0_0_ k_ ∨ P0_1_ k_) ∨ w.heap.size ≤ k_) ∧ k_ ≠ gb547 ∧ k_ ≠ gb548)) (vk HO_548000.out) hg hat); have n1_ := Aside0.mk (Kd.V_afterv (ok := (fun k_ => ((P0_0_ k_ ∨ P0_1_ k_) ∨ w.heap.size ≤ k_) ∧ k_ ≠ gb547 ∧ k_ ≠ gb548)) (vk HO_548001.out) hg hat); have n2_ := Aside0.mk (blk_grown (bk BK547.out) hg (Kd.R_ne HO551.out BK547.out (by decide))); have n3_ := Aside0.mk (blk_grown (bk BK548.out) hg (Kd.R_ne HO551.out BK548.out (by decide))); have n4_ := Aside0.mk (hb); have n5_ := Aside0.mk (ho); clear HO_548000; clear HO_548001; clear BK547; clear BK548; clear HB; clear HO551; have HO_548000 := n0_; have HO_548001 := n1_; have BK547 := n2_; have BK548 := n3_; have HB := n4_; have HO554 := n5_; clear n0_ n1_ n2_ n3_ n4_ n5_; clear ho hb hg hat; obtain ⟨Ao22, co22, eo22⟩ := Kd.R_slice HO554.out; subst eo22) | ((with_reducible refine gate_dst (N := 6) rfl ?_); (try (refine gate_guard (by rfl) ?_; dsimp only)); refine box_event ?hg (N := 6) ?hd (cs := #[.slice none 0 0, .slice none 0 0]) (t := 25) ?hr ?_; (case hd => rfl); (case hg => rfl); (case hr => first | (go_simp; done) | (go_simp; rfl)); intro gb555 hg w23 hbox hb; have n0_ := Aside0.mk (Kd.V_below (Kd.V_elderB (vk HO_548000.out) gb555 (Nat.le_of_eq hg.symm)) hb); have n1_ := Aside0.mk (Kd.V_below (Kd.V_elderB (vk HO_548001.out) gb555 (Nat.le_of_eq hg.symm)) hb); have n2_ := Aside0.mk (Kd.R_below (rk HO554.out) hb); have n3_ := Aside0.mk (blk_below (bk BK547.out) hb); have n4_ := Aside0.mk (blk_below (bk BK548.out) hb); have n5_ := Aside0.mk (below_step (by repeat (first | (with_reducible first | exact HB.out | apply bA | apply bN | apply bD | refine bS ?_ ‹_›) | exact HB.out)) hb); have n6_ := Aside0.mk (hbox); have n7_ := Aside0.mk ((by rw [hg]; exact (below_size (by repeat (first | (with_reducible first | exact HB.out | apply bA | apply bN | apply bD | refine bS ?_ ‹_›) | exact HB.out))) : w.heap.size ≤ gb555)); have n8_ := Aside0.mk ((by rw [hg]; exact (below_size (by repeat (first | (with_reducible first | exact HB.out | apply bA | apply bN | apply bD | refine bS ?_ ‹_›) | exact HB.out))) : w.heap.size ≤ gb555)); have n9_ := Aside0.mk ((by rw [hg]; exact Nat.ne_of_lt (blk_lt (bk BK547.out)) : gb547 ≠ gb555)); have n10_ := Aside0.mk ((by rw [hg]; exact Nat.ne_of_gt (blk_lt (bk BK547.out)) : gb555 ≠ gb547)); have n11_ := Aside0.mk ((by rw [hg]; exact Nat.ne_of_lt (blk_lt (bk BK548.out)) : gb548 ≠ gb555)); have n12_ := Aside0.mk ((by rw [hg]; exact Nat.ne_of_gt (blk_lt (bk BK548.out)) : gb555 ≠ gb548)); clear HO_548000; clear HO_548001; clear HO554; clear BK547; clear BK548; clear HB; have HO_548000 := n0_; have HO_548001 := n1_; have HO554 := n2_; have BK547 := n3_; have BK548 := n4_; have HB := n5_; have BK555 := n6_; have GW555 := n7_; have GE555 := n8_; have NB547_555 := n9_; have NB555_547 := n10_; have NB548_555 := n11_; have NB555_548 := n12_; clear n0_ n1_ n2_ n3_ n4_ n5_ n6_ n7_ n8_ n9_ n10_ n11_ n12_; clear hb hbox hg; have hnb24 := NB555_547.out; have hnc24 := NB547_555.out; have hnb25 := NB555_548.out; have hnc25 := NB548_555.out; have hcz26_0 : w23.cell? ⟨gb555, 0, none⟩ = some (.slice none 0 0) := (blk_cell BK555.out 0).trans rfl; have hcz26_1 : w23.cell? ⟨gb555, 1, none⟩ = some (.slice none 0 0) := (blk_cell BK555.out 1).trans rfl; have hfz26_0 := blk_frozen BK555.out 0; have hfz26_1 := blk_frozen BK555.out 1) | ((with_reducible refine gate_store (t := 25) (p := 6) rfl ?_); refine store_event (t := 25) (p := 6) (v := ?vo_w27) (w1 := ((w23.setCell ⟨gb555, 0, none⟩ (.slice Ao22 y552.length co22)).setCell ⟨gb555, 1, none⟩ (.slice none 0 0))) ?hg ?ho ?hn ?hr ?_; (case ho => rfl); (case hg => rfl); (case hn => rfl); (case hr => first | (go_simp; done) | (go_simp; rfl)); intro w27 hw; have n0_ : Aside0 (Kd.V (Kd.int .i64) 3 w27 w.heap.size (fun k_ => ((P0_0_ k_ ∨ P0_1_ k_) ∨ w.heap.size ≤ k_) ∧ some k_ ≠ (.slice Ao22 y552.length co22 : Value).ownBlock ∧ k_ ≠ gb547 ∧ k_ ≠ gb548 ∧ k_ ≠ gb555) (.slice A0_0 l0_0.length c0_0) l0_0) := ⟨(by rw [hw]; exact (by (with_reducible repeat (first | apply Kd.V_alloc | apply Kd.V_drewN | apply Kd.V_drew)); exact Kd.V_mono (Kd.V_far (p := ⟨gb555, 1, none⟩) (Kd.V_far (p := ⟨gb555, 0, none⟩) (Kd.V_mono HO_548000.out (fun k_ hk => (⟨hk, hk.2⟩ : _ ∧ k_ ≠ gb555))) (fun _ hk => hk.2) (.slice Ao22 y552.length co22)) (fun _ hk => hk.2) (.slice none 0 0)) (fun _ hk => ⟨hk.1.1.1.1, ⟨hk.1.1.2, ⟨hk.1.1.1.2.1, ⟨hk.1.1.1.2.2, hk.1.2⟩⟩⟩⟩)))⟩; have n1_ : Aside0 (Kd.V k29 29 w27 w.heap.size (fun k_ => ((P0_0_ k_ ∨ P0_1_ k_) ∨ w.heap.size ≤ k_) ∧ some k_ ≠ (.slice Ao22 y552.length co22 : Value).ownBlock ∧ k_ ≠ gb547 ∧ k_ ≠ gb548 ∧ k_ ≠ gb555) (.slice A0_1 l0_1.length c0_1) l0_1) := ⟨(by rw [hw]; exact (by (with_reducible repeat (first | apply Kd.V_alloc | apply Kd.V_drewN | apply Kd.V_drew)); exact Kd.V_mono (Kd.V_far (p := ⟨gb555, 1, none⟩) (Kd.V_far (p := ⟨gb555, 0, none⟩) (Kd.V_mono HO_548001.out (fun k_ hk => (⟨hk, hk.2⟩ : _ ∧ k_ ≠ gb555))) (fun _ hk => hk.2) (.slice Ao22 y552.length co22)) (fun _ hk => hk.2) (.slice none 0 0)) (fun _ hk => ⟨hk.1.1.1.1, ⟨hk.1.1.2, ⟨hk.1.1.1.2.1, ⟨hk.1.1.1.2.2, hk.1.2⟩⟩⟩⟩)))⟩; have n2_ : Aside0 (Kd.R (Kd.int .i64) 3 w27 w.heap.size (fun k_ => (w.heap.size ≤ k_)) (.slice Ao22 y552.length co22) y552) := ⟨(by rw [hw]; exact (by (with_reducible repeat (first | apply Kd.R_alloc | apply Kd.R_drewN | apply Kd.R_drew)); exact Kd.R_mono (Kd.R_far (p := ⟨gb555, 1, none⟩) (Kd.R_far (p := ⟨gb555, 0, none⟩) (Kd.R_types HO554.out BK555.out (by decide)) (fun _ hk => hk.2) (.slice Ao22 y552.length co22)) (fun _ hk => hk.2) (.slice none 0 0)) (fun _ hk => hk.1)))⟩; have n3_ : Aside0 (w27.heap[gb547]? = some (.cells #[.slice A0_0 l0_0.length c0_0, .slice A0_1 l0_1.length c0_1] 25 (0, 0))) := ⟨(by rw [hw]; exact (by (with_reducible repeat (first | refine blk_drewN ?_ _ | refine blk_drew ?_ | refine blk_alloc ?_ _)); refine blk_far ?_ NB547_555.out _; (with_reducible repeat (first | refine blk_drewN ?_ _ | refine blk_drew ?_ | refine blk_alloc ?_ _)); refine blk_far ?_ NB547_555.out _; (with_reducible repeat (first | refine blk_drewN ?_ _ | refine blk_drew ?_ | refine blk_alloc ?_ _)); exact BK547.out))⟩; have n4_ : Aside0 (w27.heap[gb548]? = some (.cells #[.slice none 0 0, .slice none 0 0] 25 (0, 0))) := ⟨(by rw [hw]; exact (by (with_reducible repeat (first | refine blk_drewN ?_ _ | refine blk_drew ?_ | refine blk_alloc ?_ _)); refine blk_far ?_ NB548_555.out _; (with_reducible repeat (first | refine blk_drewN ?_ _ | refine blk_drew ?_ | refine blk_alloc ?_ _)); refine blk_far ?_ NB548_555.out _; (with_reducible repeat (first | refine blk_drewN ?_ _ | refine blk_drew ?_ | refine blk_alloc ?_ _)); exact BK548.out))⟩; have n5_ : Aside0 (w27.heap[gb555]? = some (.cells #[.slice Ao22 y552.length co22, .slice none 0 0] 25 (0, 0))) := ⟨(by rw [hw]; exact (by (with_reducible repeat (first | refine blk_drewN ?_ _ | refine blk_drew ?_ | refine blk_alloc ?_ _)); refine blk_put (cs := #[.slice Ao22 y552.length co22, .slice none 0 0]) ?_ 1 _ rfl; (with_reducible repeat (first | refine blk_drewN ?_ _ | refine blk_drew ?_ | refine blk_alloc ?_ _)); refine blk_put (cs := #[.slice none 0 0, .slice none 0 0]) ?_ 0 _ rfl; (with_reducible repeat (first | refine blk_drewN ?_ _ | refine blk_drew ?_ | refine blk_alloc ?_ _)); exact BK555.out))⟩; have n6_ : Aside0 (Below w.heap.size w w27) := ⟨(by rw [hw]; exact (by repeat (first | (with_reducible first | exact HB.out | apply bA | apply bN | apply bD | refine bS ?_ ‹_›) | exact HB.out)))⟩; clear hw; clear HO_548000; clear HO_548001; clear HO554; clear BK547; clear BK548; clear BK555; clear HB; have HO_548000 := n0_; have HO_548001 := n1_; have HO554 := n2_; have BK547 := n3_; have BK548 := n4_; have BK555 := n5_; have HB := n6_; clear n0_ n1_ n2_ n3_ n4_ n5_ n6_; have hcz28_0 : w27.cell? ⟨gb555, 0, none⟩ = some (.slice Ao22 y552.length co22) := (blk_cell BK555.out 0).trans rfl; have hcz28_1 : w27.cell? ⟨gb555, 1, none⟩ = some (.slice none 0 0) := (blk_cell BK555.out 1).trans rfl; have hfz28_0 := blk_frozen BK555.out 0; have hfz28_1 := blk_frozen BK555.out 1; have p16 : 0 ≤ (a1 : Int) := of_decide_eq_true (by first | (with_reducible assumption) | assumption); have q16 : (a1 : Int) < ((y552.length : Int) : Int) := of_decide_eq_true (by first | (with_reducible assumption) | assumption); obtain ⟨go16, co16, eo16, gb16, gl16, cl16, HG16⟩ := Kd.R_form HO554.out (by omega); (first | cases eo16 | (injection eo16 with ea_ en_ ec_; (first | subst ea_ | (injection ea_ with ea_; subst ea_)); subst ec_; clear en_)); have GB16 := Aside0.mk gb16; have GG16 := Aside0.mk HG16; clear gb16 gl16 HG16; obtain ⟨hx16_0, hf16_0⟩ := Kd.R_celln 0 HO554.out (a1 : Int) p16 q16; replace p16 := eq_true p16; replace q16 := eq_true q16; obtain ⟨hy29_, hz29_⟩ := Kd.R_celln 0 HO554.out (a1 : Int) (of_decide_eq_true (by first | (with_reducible assumption) | assumption)) (of_decide_eq_true (by first | (with_reducible assumption) | assumption)); have HP29 := Kd.R_putg HO554.out (a1 : Int) 0) | ((with_reducible refine gate_store (t := 3) (p := 27) rfl ?_); refine store_event (t := 3) (p := 27) (v := ?vo_w30) (w1 := (w27.setCell ⟨go16, (a1 : Int).toNat, none⟩ (.int .i64 0))) ?hg ?ho ?hn ?hr ?_; (case ho => rfl); (case hg => rfl); (case hn => rfl); (case hr => first | (go_simp; done) | (go_simp; rfl)); intro w30 hw; have hg : w27.grownBy w30 (some go16) := (by rw [hw]; exact HP29.2); have hp_ : Kd.R (Kd.int .i64) 3 w30 w.heap.size (fun k_ => (w.heap.size ≤ k_)) (.slice (some ⟨go16, 0, none⟩) y552.length co22) y556 := (by rw [hw, Ny556.out]; exact HP29.1); clear HP29; have n0_ := Aside0.mk (Kd.V_afterv (v := (.slice (some ⟨go16, 0, none⟩) y552.length co22)) (v1 := (.slice (some ⟨go16, 0, none⟩) y552.length co22)) (ok := (fun k_ => ((P0_0_ k_ ∨ P0_1_ k_) ∨ w.heap.size ≤ k_) ∧ k_ ≠ gb547 ∧ k_ ≠ gb548 ∧ k_ ≠ gb555)) (by (with_reducible repeat (first | apply Kd.V_alloc | apply Kd.V_drewN | apply Kd.V_drew)); exact Kd.V_mono HO_548000.out (fun _ hk => ⟨⟨hk.1, ⟨hk.2.2.1, ⟨hk.2.2.2.1, hk.2.2.2.2⟩⟩⟩, hk.2.1⟩)) hg (.inl rfl)); have n1_ := Aside0.mk (Kd.V_afterv (v := (.slice (some ⟨go16, 0, none⟩) y552.length co22)) (v1 := (.slice (some ⟨go16, 0, none⟩) y552.length co22)) (ok := (fun k_ => ((P0_0_ k_ ∨ P0_1_ k_) ∨ w.heap.size ≤ k_) ∧ k_ ≠ gb547 ∧ k_ ≠ gb548 ∧ k_ ≠ gb555)) (by (with_reducible repeat (first | apply Kd.V_alloc | apply Kd.V_drewN | apply Kd.V_drew)); exact Kd.V_mono HO_548001.out (fun _ hk => ⟨⟨hk.1, ⟨hk.2.2.1, ⟨hk.2.2.2.1, hk.2.2.2.2⟩⟩⟩, hk.2.1⟩)) hg (.inl rfl)); have n2_ := Aside0.mk (blk_grown (bk BK547.out) hg (Kd.R_ne HO554.out BK547.out (by decide))); have n3_ := Aside0.mk (blk_grown (bk BK548.out) hg (Kd.R_ne HO554.out BK548.out (by decide))); have n4_ := Aside0.mk (hp_); have n5_ := Aside0.mk (blk_grown (bk BK555.out) hg (Kd.R_ne HO554.out BK555.out (by decide))); have n6_ := Aside0.mk ((by rw [hw]; exact below_set (HB.out) GB16.out : Below w.heap.size w w30)); clear HO_548000; clear HO_548001; clear BK547; clear BK548; clear HO554; clear BK555; clear HB; have HO_548000 := n0_; have HO_548001 := n1_; have BK547 := n2_; have BK548 := n3_; have HO554 := n4_; have BK555 := n5_; have HB := n6_; clear n0_ n1_ n2_ n3_ n4_ n5_ n6_; clear hg hw hp_))
              go_loopg [7, 8] kj2 (fun kq v7 v8 w' => ∃ (x7_2 : List Int) (x8_2 : Int) (x556001_2 : List (S29)) (u556001 : Value), v8 = .int .i64 x8_2 ∧ Aside0 (interchangeref13_Down.l0 kq a1 x7_2 x8_2 l0_0 l0_1 y556 x556001_2 = some (r1, r2, r3)) ∧ Aside0 (kq ≤ kj2) ∧ Aside0 (Kd.R (Kd.int .i64) 3 w' w.heap.size (fun k_ => (w.heap.size ≤ k_) ∧ some k_ ≠ ((.slice (some ⟨go16, 0, none⟩) y552.length co22) : Value).ownBlock) v7 x7_2) ∧ Aside0 (Kd.V (Kd.int .i64) 3 w' w.heap.size (fun k_ => ((P0_0_ k_ ∨ P0_1_ k_) ∨ w.heap.size ≤ k_) ∧ some k_ ≠ (v7 : Value).ownBlock ∧ some k_ ≠ ((.slice (some ⟨go16, 0, none⟩) y552.length co22) : Value).ownBlock ∧ some k_ ≠ (u556001 : Value).ownBlock ∧ k_ ≠ gb547 ∧ k_ ≠ gb548 ∧ k_ ≠ gb555) (.slice A0_0 l0_0.length c0_0) l0_0) ∧ Aside0 (Kd.V k29 29 w' w.heap.size (fun k_ => ((P0_0_ k_ ∨ P0_1_ k_) ∨ w.heap.size ≤ k_) ∧ some k_ ≠ (v7 : Value).ownBlock ∧ some k_ ≠ ((.slice (some ⟨go16, 0, none⟩) y552.length co22) : Value).ownBlock ∧ some k_ ≠ (u556001 : Value).ownBlock ∧ k_ ≠ gb547 ∧ k_ ≠ gb548 ∧ k_ ≠ gb555) (.slice A0_1 l0_1.length c0_1) l0_1) ∧ Aside0 (Kd.R (Kd.int .i64) 3 w' w.heap.size (fun k_ => (w.heap.size ≤ k_) ∧ some k_ ≠ (v7 : Value).ownBlock) (.slice (some ⟨go16, 0, none⟩) y552.length co22) y556) ∧ Aside0 (Kd.R k29 29 w' w.heap.size (fun k_ => (w.heap.size ≤ k_)) u556001 x556001_2) ∧ Aside0 (w'.heap[gb547]? = some (.cells #[(.slice A0_0 l0_0.length c0_0), (.slice A0_1 l0_1.length c0_1)] 25 (0, 0))) ∧ Aside0 (w'.heap[gb548]? = some (.cells #[(.slice none 0 0), (.slice none 0 0)] 25 (0, 0))) ∧ Aside0 (w'.heap[gb555]? = some (.cells #[(.slice (some ⟨go16, 0, none⟩) y552.length co22), u556001] 25 (0, 0))) ∧ Aside0 (Below w.heap.size w w'))
              case atStart => exact ⟨(([] : List Int)), (0), (([] : List (S29))), (.slice none 0 0), (by first | rfl | (simp; done) | (simp [*]; done)), H', ⟨Nat.le_refl _⟩, ⟨by first | exact Kd.R_nil _ _ _ _ _ | exact Kd.N_nil _ _ _ _ _ | exact Kd.V_nil _ _ _ _ _ | exact Kd.Q_nil _ _ _ _ _ | exact Kd.S_nil _ _ _ _ _⟩, ⟨by (with_reducible repeat (first | apply Kd.V_alloc | apply Kd.V_drewN | apply Kd.V_drew)); exact Kd.V_mono HO_548000.out (fun _ hk => ⟨hk.1.1, ⟨(by simp [Value.ownBlock]), ⟨hk.2, ⟨(by simp [Value.ownBlock]), ⟨hk.1.2.1, ⟨hk.1.2.2.1, hk.1.2.2.2⟩⟩⟩⟩⟩⟩)⟩, ⟨by (with_reducible repeat (first | apply Kd.V_alloc | apply Kd.V_drewN | apply Kd.V_drew)); exact Kd.V_mono HO_548001.out (fun _ hk => ⟨hk.1.1, ⟨(by simp [Value.ownBlock]), ⟨hk.2, ⟨(by simp [Value.ownBlock]), ⟨hk.1.2.1, ⟨hk.1.2.2.1, hk.1.2.2.2⟩⟩⟩⟩⟩⟩)⟩, ⟨by (with_reducible repeat (first | apply Kd.R_alloc | apply Kd.R_drewN | apply Kd.R_drew)); exact Kd.R_mono HO554.out (fun _ hk => ⟨hk, (by simp [Value.ownBlock])⟩)⟩, ⟨by first | exact Kd.R_nil _ _ _ _ _ | exact Kd.N_nil _ _ _ _ _ | exact Kd.V_nil _ _ _ _ _ | exact Kd.Q_nil _ _ _ _ _ | exact Kd.S_nil _ _ _ _ _⟩, ⟨by (with_reducible repeat (first | refine blk_drewN ?_ _ | refine blk_drew ?_ | refine blk_alloc ?_ _)); exact BK547.out⟩, ⟨by (with_reducible repeat (first | refine blk_drewN ?_ _ | refine blk_drew ?_ | refine blk_alloc ?_ _)); exact BK548.out⟩, ⟨by (with_reducible repeat (first | refine blk_drewN ?_ _ | refine blk_drew ?_ | refine blk_alloc ?_ _)); exact BK555.out⟩, ⟨by repeat (first | (with_reducible first | exact HB.out | apply below_alloc | apply pw_below_drewN | apply below_drew1 | refine below_set ?_ GE547.out | refine below_set ?_ GE548.out | refine below_set ?_ GE555.out) | exact HB.out)⟩⟩
              case round =>
                clear H'
                try clear c1
                try clear p1
                try clear q1
                try clear hx1
                try clear c2
                try clear p2
                try clear c3
                try clear c6
                try clear c6b0
                try clear c7
                try clear c9
                try clear c10
                try clear c13
                try clear c14
                try clear c14b0
                try clear c15
                try clear c15b0
                try clear p16
                try clear q16
                try clear hx16
                try clear hf16
                try clear c19
                try clear c24
                try clear c25
                try clear hcz11_0
                try clear hcz11_1
                try clear hcz12_0
                try clear hcz12_1
                try clear hcz20_0
                try clear hcz20_1
                try clear hcz26_0
                try clear hcz26_1
                try clear hcz28_0
                try clear hcz28_1
                try clear hcz8_0
                try clear hcz8_1
                try clear hfz11_0
                try clear hfz11_1
                try clear hfz12_0
                try clear hfz12_1
                try clear hfz20_0
                try clear hfz20_1
                try clear hfz26_0
                try clear hfz26_1
                try clear hfz28_0
                try clear hfz28_1
                try clear hfz8_0
                try clear hfz8_1
                try clear hx16_0
                try clear p16
                try clear p2
                try clear q16
                obtain ⟨x7_2, x8_2, x556001_2, u556001, rfl, HA, HK2, HO_7, HO_548000, HO_548001, HO_556000, HO_556001, BK547, BK548, BK555, HB⟩ := hrel
                have hl556000_2 := (Kd.R_reads' HO_556000.out).1
                rw [hl556000_2] at HO_556000
                (try simp only [hl556000_2])
                (try simp only [hl556000_2] at BK547)
                (try simp only [hl556000_2] at BK548)
                (try simp only [hl556000_2] at BK555)
                (try simp only [hl556000_2] at HO_7)
                (try simp only [hl556000_2] at HO_548000)
                (try simp only [hl556000_2] at HO_548001)
                (try simp only [hl556000_2] at HO_556001)
                cases gk with
                | zero => exact absurd HA.out (by simp [interchangeref13_Down.l0])
                | succ k2 =>
                  have H := HA.out
                  clear HA
                  simp only [interchangeref13_Down.l0] at H
                  by_cases c31 : x8_2 < (l0_1.length : Int)
                  · rw [if_pos c31] at H
                    have c31b0 : decide (x8_2 < (l0_1.length : Int)) = true := decide_eq_true c31
                    clear c31
                    by_cases c32 : 0 ≤ x8_2
                    · rw [if_pos c32] at H
                      have c32b0 : decide (0 ≤ x8_2) = true := decide_eq_true c32
                      clear c32
                      by_cases c33 : ((rd_T29 l0_1 x8_2).f0) = a1
                      · rw [if_pos c33] at H
                        have c33b0 : (((rd_T29 l0_1 x8_2).f0) == a1) = true := beq_iff_eq.mpr c33
                        have c33b1 : (((rd_T29 l0_1 x8_2).f0) != a1) = false := bne_eq_false_iff_eq.mpr c33
                        clear c33
                        by_cases c34 : ((rd_T29 l0_1 x8_2).f3) = 0
                        · rw [if_pos c34] at H
                          have c34b0 : (((rd_T29 l0_1 x8_2).f3) == 0) = true := beq_iff_eq.mpr c34
                          have c34b1 : (((rd_T29 l0_1 x8_2).f3) != 0) = false := bne_eq_false_iff_eq.mpr c34
                          clear c34
                          have H' := Aside0.mk H
                          clear H
                          have hnb35 := NB547_548.out
                          have hnc35 := NB548_547.out
                          have hnb36 := NB547_555.out
                          have hnc36 := NB555_547.out
                          have hcz37_0 : wr.cell? ⟨gb547, 0, none⟩ = some (.slice A0_0 l0_0.length c0_0) := (blk_cell BK547.out 0).trans rfl
                          have hcz37_1 : wr.cell? ⟨gb547, 1, none⟩ = some (.slice A0_1 l0_1.length c0_1) := (blk_cell BK547.out 1).trans rfl
                          have hfz37_0 := blk_frozen BK547.out 0
                          have hfz37_1 := blk_frozen BK547.out 1
                          have p557 : 0 ≤ (x8_2 : Int) := of_decide_eq_true (by first | (with_reducible assumption) | assumption)
                          have q557 : x8_2 < (l0_1.length : Int) := of_decide_eq_true (by first | (with_reducible assumption) | assumption)
                          obtain ⟨ad557, e557, hx557_0, hx557_1, hx557_2, hx557_3⟩ := at_T29 (Kd.V_reads' HO_548001.out).2.2 x8_2 p557 q557
                          cases e557
                          replace p557 := eq_true p557
                          replace q557 := eq_true q557
                          have p558 : 0 ≤ (x8_2 : Int) := of_decide_eq_true (by first | (with_reducible assumption) | assumption)
                          have q558 : x8_2 < (l0_1.length : Int) := of_decide_eq_true (by first | (with_reducible assumption) | assumption)
                          obtain ⟨ad558, e558, hx558_0, hx558_1, hx558_2, hx558_3⟩ := at_T29 (Kd.V_reads' HO_548001.out).2.2 x8_2 p558 q558
                          obtain rfl : ad557 = ad558 := (by injection e558)
                          replace p558 := eq_true p558
                          replace q558 := eq_true q558
                          go_wp2
                          (try simp only [← hl556000_2])
                          go_roundg k2
                          case measure => have := HJ2.out; have := HK2.out; omega
                          case rel => exact ⟨(x7_2), (wrap64 (x8_2 + 1)), (x556001_2), (u556001), (by first | rfl | (simp; done) | (simp [*]; done)), H', ⟨by have := HJ2.out; have := HK2.out; omega⟩, ⟨by (try simp only [hl556000_2]); (with_reducible repeat (first | apply Kd.R_alloc | apply Kd.R_drewN | apply Kd.R_drew)); exact HO_7.out⟩, ⟨by (try simp only [hl556000_2]); (with_reducible repeat (first | apply Kd.V_alloc | apply Kd.V_drewN | apply Kd.V_drew)); exact HO_548000.out⟩, ⟨by (try simp only [hl556000_2]); (with_reducible repeat (first | apply Kd.V_alloc | apply Kd.V_drewN | apply Kd.V_drew)); exact HO_548001.out⟩, ⟨by (try simp only [hl556000_2]); (with_reducible repeat (first | apply Kd.R_alloc | apply Kd.R_drewN | apply Kd.R_drew)); exact HO_556000.out⟩, ⟨by (try simp only [hl556000_2]); (with_reducible repeat (first | apply Kd.R_alloc | apply Kd.R_drewN | apply Kd.R_drew)); exact HO_556001.out⟩, ⟨by (try simp only [hl556000_2]); (with_reducible repeat (first | refine blk_drewN ?_ _ | refine blk_drew ?_ | refine blk_alloc ?_ _)); exact BK547.out⟩, ⟨by (try simp only [hl556000_2]); (with_reducible repeat (first | refine blk_drewN ?_ _ | refine blk_drew ?_ | refine blk_alloc ?_ _)); exact BK548.out⟩, ⟨by (try simp only [hl556000_2]); (with_reducible repeat (first | refine blk_drewN ?_ _ | refine blk_drew ?_ | refine blk_alloc ?_ _)); exact BK555.out⟩, ⟨by repeat (first | (with_reducible first | exact HB.out | apply below_alloc | apply pw_below_drewN | apply below_drew1 | refine below_set ?_ GE547.out | refine below_set ?_ GE548.out | refine below_set ?_ GE555.out) | exact HB.out)⟩⟩
                        · rw [if_neg c34] at H
                          have c34b0 : (((rd_T29 l0_1 x8_2).f3) == 0) = false := beq_eq_false_iff_ne.mpr c34
                          have c34b1 : (((rd_T29 l0_1 x8_2).f3) != 0) = true := bne_iff_ne.mpr c34
                          by_cases c38 : x7_2.length < 17592186044416
                          · rw [if_pos c38] at H
                            have LMc38 := Aside0.mk c38
                            clear c38
                            obtain ⟨y560, hy560⟩ : ∃ y_ : List Int, y_ = (x7_2 ++ [(rd_T29 l0_1 x8_2).f3]) := ⟨_, rfl⟩
                            replace H : (interchangeref13_Down.l0 k2 a1 y560 (wrap64 (x8_2 + 1)) l0_0 l0_1 y556 x556001_2) = some (r1, r2, r3) := by first | (rw [hy560]; with_reducible exact H) | (have H2_ := (Option.bind_some _ _).symm.trans H; rw [hy560]; with_reducible exact H2_) | (have H2_ := (Option.bind_some _ _).symm.trans H; with_reducible exact H2_) | with_reducible exact H | (rw [hy560]; exact H) | exact H
                            have Ny560 := Aside0.mk hy560
                            clear hy560
                            have H' := Aside0.mk H
                            clear H
                            have hnb39 := NB547_548.out
                            have hnc39 := NB548_547.out
                            have hnb40 := NB547_555.out
                            have hnc40 := NB555_547.out
                            have hcz41_0 : wr.cell? ⟨gb547, 0, none⟩ = some (.slice A0_0 l0_0.length c0_0) := (blk_cell BK547.out 0).trans rfl
                            have hcz41_1 : wr.cell? ⟨gb547, 1, none⟩ = some (.slice A0_1 l0_1.length c0_1) := (blk_cell BK547.out 1).trans rfl
                            have hfz41_0 := blk_frozen BK547.out 0
                            have hfz41_1 := blk_frozen BK547.out 1
                            have p557 : 0 ≤ (x8_2 : Int) := of_decide_eq_true (by first | (with_reducible assumption) | assumption)
                            have q557 : x8_2 < (l0_1.length : Int) := of_decide_eq_true (by first | (with_reducible assumption) | assumption)
                            obtain ⟨ad557, e557, hx557_0, hx557_1, hx557_2, hx557_3⟩ := at_T29 (Kd.V_reads' HO_548001.out).2.2 x8_2 p557 q557
                            cases e557
                            replace p557 := eq_true p557
                            replace q557 := eq_true q557
                            have p558 : 0 ≤ (x8_2 : Int) := of_decide_eq_true (by first | (with_reducible assumption) | assumption)
                            have q558 : x8_2 < (l0_1.length : Int) := of_decide_eq_true (by first | (with_reducible assumption) | assumption)
                            obtain ⟨ad558, e558, hx558_0, hx558_1, hx558_2, hx558_3⟩ := at_T29 (Kd.V_reads' HO_548001.out).2.2 x8_2 p558 q558
                            obtain rfl : ad557 = ad558 := (by injection e558)
                            replace p558 := eq_true p558
                            replace q558 := eq_true q558
                            have p559 : 0 ≤ (x8_2 : Int) := of_decide_eq_true (by first | (with_reducible assumption) | assumption)
                            have q559 : x8_2 < (l0_1.length : Int) := of_decide_eq_true (by first | (with_reducible assumption) | assumption)
                            obtain ⟨ad559, e559, hx559_0, hx559_1, hx559_2, hx559_3⟩ := at_T29 (Kd.V_reads' HO_548001.out).2.2 x8_2 p559 q559
                            obtain rfl : ad557 = ad559 := (by injection e559)
                            replace p559 := eq_true p559
                            replace q559 := eq_true q559
                            go_wp2_with (first | ((with_reducible refine gate_builtin (b := .append) (xs := #[.tmp 60, .tmp 67]) rfl ?_); (try (refine gate_guard (by rfl) ?_; dsimp only)); at_builtin; refine Kd.R_append (Kd.int .i64) (w0 := w) w.heap.size rfl (.tmp 60) (.tmp 67) 22 3 (.int .i64 0) 8 rfl Try.underlying22 info3 rfl (by decide) (by omega) u7 x7_2 ((rd_T29 l0_1 x8_2).f3) [.int .i64 ((rd_T29 l0_1 x8_2).f3)] (fun k_ => (w.heap.size ≤ k_) ∧ some k_ ≠ (.slice (some ⟨go16, 0, none⟩) y556.length co22 : Value).ownBlock) (fun _ => False) rfl rfl ?aP (fun _ hk => hk.elim) ?aF ?aO ?aB ?aS ?aL ?_; (case aP => exact rfl); (case aB => exact (by repeat (first | (with_reducible first | exact HB.out | apply bA | apply bN | apply bD | refine bS ?_ ‹_›) | exact HB.out))); (case aF => exact (fun k_ hk => ⟨(Nat.le_trans (below_size (by repeat (first | (with_reducible first | exact HB.out | apply bA | apply bN | apply bD | refine bS ?_ ‹_›) | exact HB.out))) hk), Kd.fresh' (Kd.R_lt (rk HO_556000.out)) k_ hk⟩)); (case aO => exact (rk HO_7.out)); (case aS => exact (below_size (by repeat (first | (with_reducible first | exact HB.out | apply bA | apply bN | apply bD | refine bS ?_ ‹_›) | exact HB.out)))); (case aL => have := LMc38.out; omega); intro v561 w42 ho hb hg hat; rw [← Ny560.out] at ho; have n0_ := Aside0.mk (Kd.V_afterv (ok := (fun k_ => ((P0_0_ k_ ∨ P0_1_ k_) ∨ w.heap.size ≤ k_) ∧ some k_ ≠ (.slice (some ⟨go16, 0, none⟩) y556.length co22 : Value).ownBlock ∧ some k_ ≠ (u556001 : Value).ownBlock ∧ k_ ≠ gb547 ∧ k_ ≠ gb548 ∧ k_ ≠ gb555)) (by (with_reducible repeat (first | apply Kd.V_alloc | apply Kd.V_drewN | apply Kd.V_drew)); exact Kd.V_mono HO_548000.out (fun _ hk => ⟨⟨hk.1, ⟨hk.2.2.1, ⟨hk.2.2.2.1, ⟨hk.2.2.2.2.1, ⟨hk.2.2.2.2.2.1, hk.2.2.2.2.2.2⟩⟩⟩⟩⟩, hk.2.1⟩)) hg hat); have n1_ := Aside0.mk (Kd.V_afterv (ok := (fun k_ => ((P0_0_ k_ ∨ P0_1_ k_) ∨ w.heap.size ≤ k_) ∧ some k_ ≠ (.slice (some ⟨go16, 0, none⟩) y556.length co22 : Value).ownBlock ∧ some k_ ≠ (u556001 : Value).ownBlock ∧ k_ ≠ gb547 ∧ k_ ≠ gb548 ∧ k_ ≠ gb555)) (by (with_reducible repeat (first | apply Kd.V_alloc | apply Kd.V_drewN | apply Kd.V_drew)); exact Kd.V_mono HO_548001.out (fun _ hk => ⟨⟨hk.1, ⟨hk.2.2.1, ⟨hk.2.2.2.1, ⟨hk.2.2.2.2.1, ⟨hk.2.2.2.2.2.1, hk.2.2.2.2.2.2⟩⟩⟩⟩⟩, hk.2.1⟩)) hg hat); have n2_ := Aside0.mk (Kd.R_after (ok := (fun k_ => (w.heap.size ≤ k_))) (rk HO_556000.out) hg hat); have n3_ := Aside0.mk (Kd.R_over' (rk HO_556001.out) (Kd.R_typed (rk HO_7.out)) (by decide) hg); have n4_ := Aside0.mk (blk_grown (bk BK547.out) hg (Kd.R_ne HO_7.out BK547.out (by decide))); have n5_ := Aside0.mk (blk_grown (bk BK548.out) hg (Kd.R_ne HO_7.out BK548.out (by decide))); have n6_ := Aside0.mk (blk_grown (bk BK555.out) hg (Kd.R_ne HO_7.out BK555.out (by decide))); have n7_ := Aside0.mk (hb); have n8_ := Aside0.mk (ho); clear HO_548000; clear HO_548001; clear HO_556000; clear HO_556001; clear BK547; clear BK548; clear BK555; clear HB; clear HO_7; have HO_548000 := n0_; have HO_548001 := n1_; have HO_556000 := n2_; have HO_556001 := n3_; have BK547 := n4_; have BK548 := n5_; have BK555 := n6_; have HB := n7_; have HO562 := n8_; clear n0_ n1_ n2_ n3_ n4_ n5_ n6_ n7_ n8_; clear ho hb hg hat))
                            (try simp only [← hl556000_2])
                            go_roundg k2
                            case measure => have := HJ2.out; have := HK2.out; omega
                            case rel => exact ⟨(y560), (wrap64 (x8_2 + 1)), (x556001_2), (u556001), (by first | rfl | (simp; done) | (simp [*]; done)), H', ⟨by have := HJ2.out; have := HK2.out; omega⟩, ⟨by (try simp only [hl556000_2]); (with_reducible repeat (first | apply Kd.R_alloc | apply Kd.R_drewN | apply Kd.R_drew)); exact HO562.out⟩, ⟨by (try simp only [hl556000_2]); (with_reducible repeat (first | apply Kd.V_alloc | apply Kd.V_drewN | apply Kd.V_drew)); exact Kd.V_mono HO_548000.out (fun _ hk => ⟨hk.1.1, ⟨hk.2, ⟨hk.1.2.1, ⟨hk.1.2.2.1, ⟨hk.1.2.2.2.1, ⟨hk.1.2.2.2.2.1, hk.1.2.2.2.2.2⟩⟩⟩⟩⟩⟩)⟩, ⟨by (try simp only [hl556000_2]); (with_reducible repeat (first | apply Kd.V_alloc | apply Kd.V_drewN | apply Kd.V_drew)); exact Kd.V_mono HO_548001.out (fun _ hk => ⟨hk.1.1, ⟨hk.2, ⟨hk.1.2.1, ⟨hk.1.2.2.1, ⟨hk.1.2.2.2.1, ⟨hk.1.2.2.2.2.1, hk.1.2.2.2.2.2⟩⟩⟩⟩⟩⟩)⟩, ⟨by (try simp only [hl556000_2]); (with_reducible repeat (first | apply Kd.R_alloc | apply Kd.R_drewN | apply Kd.R_drew)); exact HO_556000.out⟩, ⟨by (try simp only [hl556000_2]); (with_reducible repeat (first | apply Kd.R_alloc | apply Kd.R_drewN | apply Kd.R_drew)); exact HO_556001.out⟩, ⟨by (try simp only [hl556000_2]); (with_reducible repeat (first | refine blk_drewN ?_ _ | refine blk_drew ?_ | refine blk_alloc ?_ _)); exact BK547.out⟩, ⟨by (try simp only [hl556000_2]); (with_reducible repeat (first | refine blk_drewN ?_ _ | refine blk_drew ?_ | refine blk_alloc ?_ _)); exact BK548.out⟩, ⟨by (try simp only [hl556000_2]); (with_reducible repeat (first | refine blk_drewN ?_ _ | refine blk_drew ?_ | refine blk_alloc ?_ _)); exact BK555.out⟩, ⟨by repeat (first | (with_reducible first | exact HB.out | apply below_alloc | apply pw_below_drewN | apply below_drew1 | refine below_set ?_ GE547.out | refine below_set ?_ GE548.out | refine below_set ?_ GE555.out) | exact HB.out)⟩⟩
                          · rw [if_neg c38] at H
                            exact absurd H (by simp)
                      · rw [if_neg c33] at H
                        have c33b0 : (((rd_T29 l0_1 x8_2).f0) == a1) = false := beq_eq_false_iff_ne.mpr c33
                        have c33b1 : (((rd_T29 l0_1 x8_2).f0) != a1) = true := bne_iff_ne.mpr c33
                        by_cases c43 : x556001_2.length < 4398046511104
                        · rw [if_pos c43] at H
                          have LMc43 := Aside0.mk c43
                          clear c43
                          obtain ⟨y564, hy564⟩ : ∃ y_ : List (S29), y_ = (x556001_2 ++ [(⟨(rd_T29 l0_1 x8_2).f0, (rd_T29 l0_1 x8_2).f1, (rd_T29 l0_1 x8_2).f2, (rd_T29 l0_1 x8_2).f3⟩ : S29)]) := ⟨_, rfl⟩
                          replace H : (interchangeref13_Down.l0 k2 a1 x7_2 (wrap64 (x8_2 + 1)) l0_0 l0_1 y556 y564) = some (r1, r2, r3) := by first | (rw [hy564]; with_reducible exact H) | (have H2_ := (Option.bind_some _ _).symm.trans H; rw [hy564]; with_reducible exact H2_) | (have H2_ := (Option.bind_some _ _).symm.trans H; with_reducible exact H2_) | with_reducible exact H | (rw [hy564]; exact H) | exact H
                          have Ny564 := Aside0.mk hy564
                          clear hy564
                          have H' := Aside0.mk H
                          clear H
                          have hnb44 := NB547_548.out
                          have hnc44 := NB548_547.out
                          have hnb45 := NB547_555.out
                          have hnc45 := NB555_547.out
                          have hcz46_0 : wr.cell? ⟨gb547, 0, none⟩ = some (.slice A0_0 l0_0.length c0_0) := (blk_cell BK547.out 0).trans rfl
                          have hcz46_1 : wr.cell? ⟨gb547, 1, none⟩ = some (.slice A0_1 l0_1.length c0_1) := (blk_cell BK547.out 1).trans rfl
                          have hfz46_0 := blk_frozen BK547.out 0
                          have hfz46_1 := blk_frozen BK547.out 1
                          have p557 : 0 ≤ (x8_2 : Int) := of_decide_eq_true (by first | (with_reducible assumption) | assumption)
                          have q557 : x8_2 < (l0_1.length : Int) := of_decide_eq_true (by first | (with_reducible assumption) | assumption)
                          obtain ⟨ad557, e557, hx557_0, hx557_1, hx557_2, hx557_3⟩ := at_T29 (Kd.V_reads' HO_548001.out).2.2 x8_2 p557 q557
                          cases e557
                          replace p557 := eq_true p557
                          replace q557 := eq_true q557
                          try go_wp2
                          have n0_ := Aside0.mk (Kd.R_drew HO_7.out)
                          have n1_ := Aside0.mk (Kd.V_drew HO_548000.out)
                          have n2_ := Aside0.mk (Kd.V_drew HO_548001.out)
                          have n3_ := Aside0.mk (Kd.R_drew HO_556000.out)
                          have n4_ := Aside0.mk (Kd.R_drew HO_556001.out)
                          have n5_ := Aside0.mk (blk_drew BK547.out)
                          have n6_ := Aside0.mk (blk_drew BK548.out)
                          have n7_ := Aside0.mk (blk_drew BK555.out)
                          have n8_ := Aside0.mk (below_drew1 HB.out)
                          clear HO_7
                          clear HO_548000
                          clear HO_548001
                          clear HO_556000
                          clear HO_556001
                          clear BK547
                          clear BK548
                          clear BK555
                          clear HB
                          have HO_7 := n0_
                          have HO_548000 := n1_
                          have HO_548001 := n2_
                          have HO_556000 := n3_
                          have HO_556001 := n4_
                          have BK547 := n5_
                          have BK548 := n6_
                          have BK555 := n7_
                          have HB := n8_
                          clear n0_ n1_ n2_ n3_ n4_ n5_ n6_ n7_ n8_
                          have p563 : 0 ≤ (x8_2 : Int) := of_decide_eq_true (by first | (with_reducible assumption) | assumption)
                          have q563 : x8_2 < (l0_1.length : Int) := of_decide_eq_true (by first | (with_reducible assumption) | assumption)
                          obtain ⟨ad563, e563, hx563_0, hx563_1, hx563_2, hx563_3⟩ := at_T29 (Kd.V_reads' HO_548001.out).2.2 x8_2 p563 q563
                          obtain rfl : ad557 = ad563 := (by injection e563)
                          replace p563 := eq_true p563
                          replace q563 := eq_true q563
                          refine start_ (n := 11) (S := fun w' => w'.cell? ⟨gb555, 0, none⟩ = some (.slice (some ⟨go16, 0, none⟩) y556.length co22) ∧ w'.cell? ⟨gb555, 1, none⟩ = some (u556001) ∧ w'.cell? ⟨gb547, 0, none⟩ = some (.slice A0_0 l0_0.length c0_0) ∧ w'.cell? ⟨gb547, 1, none⟩ = some (.slice (some ad557) l0_1.length c0_1) ∧ w'.cell? (ad557.add ((x8_2).toNat * 4)) = some (.int .i64 ((rd_T29 l0_1 x8_2).f0)) ∧ w'.cell? ⟨(ad557.add ((x8_2).toNat * 4)).block, (ad557.add ((x8_2).toNat * 4)).off + 1, none⟩ = some (.int .i64 ((rd_T29 l0_1 x8_2).f1)) ∧ w'.cell? ⟨(ad557.add ((x8_2).toNat * 4)).block, (ad557.add ((x8_2).toNat * 4)).off + 2, none⟩ = some (.int .i64 ((rd_T29 l0_1 x8_2).f2)) ∧ w'.cell? ⟨(ad557.add ((x8_2).toNat * 4)).block, (ad557.add ((x8_2).toNat * 4)).off + 3, none⟩ = some (.int .i64 ((rd_T29 l0_1 x8_2).f3))) (ds := [8, 10]) #[false, false, false, false, false, false, false, false, false, false, false] (by kernel_rfl) rfl rfl ⟨(blk_cell BK555.out 0).trans rfl, (blk_cell BK555.out 1).trans rfl, (blk_cell BK547.out 0).trans rfl, (blk_cell BK547.out 1).trans rfl, hx563_0, hx563_1, hx563_2, hx563_3⟩ (fun hHeld => ?_); refine with_tabW interchangeref13_Down.tab10 interchangeref13_Down.bits10 (fun HT_ HW_ => ?_)
                          generalize wr.drew = w47 at HO_7 HO_548000 HO_548001 HO_556000 HO_556001 BK547 BK548 BK555 HB hx563_0 hx563_1 hx563_2 hx563_3 hHeld ⊢
                          refine pure_ (i := 0) (N := some 43) (v := ?_) (a' := ?_) #[true, false, false, false, false, false, false, false, false, false, false] rfl rfl (any_of HT_.out (by kernel_rfl)) (fun _ _ _ h => h) (Or.inl ⟨by rfl, ?_⟩) ?_ ?_
                          rotate_left
                          · intro w'
                            go_simp
                            with_reducible rfl
                          rotate_left
                          · simp only [Act.put, List.setIfInBounds_toArray, List.set_cons_zero, List.set_cons_succ, i64_w, i32_w]
                            rfl
                          refine pure_ (i := 2) (N := some 45) (v := ?_) (a' := ?_) #[true, false, true, false, false, false, false, false, false, false, false] rfl rfl (any_of HT_.out (by kernel_rfl)) (fun _ _ _ h => h) (Or.inl ⟨by rfl, ?_⟩) ?_ ?_
                          rotate_left
                          · intro w'
                            go_simp
                            with_reducible rfl
                          rotate_left
                          · simp only [Act.put, List.setIfInBounds_toArray, List.set_cons_zero, List.set_cons_succ, i64_w, i32_w]
                            rfl
                          refine pure_ (i := 4) (N := some 47) (v := ?_) (a' := ?_) #[true, false, true, false, true, false, false, false, false, false, false] rfl rfl (any_of HT_.out (by kernel_rfl)) (fun _ _ _ h => h) (Or.inl ⟨by rfl, ?_⟩) ?_ ?_
                          rotate_left
                          · intro w'
                            go_simp
                            with_reducible rfl
                          rotate_left
                          · simp only [Act.put, List.setIfInBounds_toArray, List.set_cons_zero, List.set_cons_succ, i64_w, i32_w]
                            rfl
                          refine take_ (i := 1) (N := some 44) (v := ?_) (a' := ?_) #[true, true, true, false, true, false, false, false, false, false, false] rfl rfl (take_ofW HT_.out HW_.out (by kernel_rfl)) (fun _ _ _ h => h) (Or.inl ⟨by rfl, ?_⟩) hHeld ?_ ?_
                          rotate_left
                          · rintro w' ⟨s0, s1, s2, s3, s4, s5, s6, s7⟩
                            go_simp
                            with_reducible rfl
                          rotate_left
                          · simp only [Act.put, List.setIfInBounds_toArray, List.set_cons_zero, List.set_cons_succ, i64_w, i32_w]
                            rfl
                          refine take_ (i := 3) (N := some 46) (v := ?_) (a' := ?_) #[true, true, true, true, true, false, false, false, false, false, false] rfl rfl (take_ofW HT_.out HW_.out (by kernel_rfl)) (fun _ _ _ h => h) (Or.inl ⟨by rfl, ?_⟩) hHeld ?_ ?_
                          rotate_left
                          · rintro w' ⟨s0, s1, s2, s3, s4, s5, s6, s7⟩
                            go_simp
                            with_reducible rfl
                          rotate_left
                          · simp only [Act.put, List.setIfInBounds_toArray, List.set_cons_zero, List.set_cons_succ, i64_w, i32_w]
                            rfl
                          refine pure_ (i := 5) (N := some 48) (v := ?_) (a' := ?_) #[true, true, true, true, true, true, false, false, false, false, false] rfl rfl (any_of HT_.out (by kernel_rfl)) (fun _ _ _ h => h) (Or.inl ⟨by rfl, ?_⟩) ?_ ?_
                          rotate_left
                          · intro w'
                            go_simp
                            with_reducible rfl
                          rotate_left
                          · simp only [Act.put, List.setIfInBounds_toArray, List.set_cons_zero, List.set_cons_succ, i64_w, i32_w]
                            rfl
                          refine take_ (i := 6) (N := some 49) (v := ?_) (a' := ?_) #[true, true, true, true, true, true, true, false, false, false, false] rfl rfl (take_ofW HT_.out HW_.out (by kernel_rfl)) (fun _ _ _ h => h) (Or.inl ⟨by rfl, ?_⟩) hHeld ?_ ?_
                          rotate_left
                          · rintro w' ⟨s0, s1, s2, s3, s4, s5, s6, s7⟩
                            go_simp
                            with_reducible rfl
                          rotate_left
                          · simp only [Act.put, List.setIfInBounds_toArray, List.set_cons_zero, List.set_cons_succ, i64_w, i32_w]
                            rfl
                          refine one_ (i := 7) (N := some 50) #[true, true, true, true, true, true, true, true, false, false, false] rfl rfl (one_of HT_.out (by kernel_rfl)) (by decide) (fun K hK => ?_)
                          refine value_ (w1 := ?_) (v := ?_) (by rfl) rfl ?_ ?_
                          rotate_left 2
                          · go_simp
                            constructor
                            · rfl
                            · rfl
                          refine hK.out _ _ ⟨(blk_cell (blk_alloc BK555.out _) 0).trans rfl, (blk_cell (blk_alloc BK555.out _) 1).trans rfl, (blk_cell (blk_alloc BK547.out _) 0).trans rfl, (blk_cell (blk_alloc BK547.out _) 1).trans rfl, (World.cell?_alloc_lt _ _ _ (World.block_lt_of_cell? _ _ (hHeld.2.2.2.2.1))).trans (hHeld.2.2.2.2.1), (World.cell?_alloc_lt _ _ _ (World.block_lt_of_cell? _ _ (hHeld.2.2.2.2.2.1))).trans (hHeld.2.2.2.2.2.1), (World.cell?_alloc_lt _ _ _ (World.block_lt_of_cell? _ _ (hHeld.2.2.2.2.2.2.1))).trans (hHeld.2.2.2.2.2.2.1), (World.cell?_alloc_lt _ _ _ (World.block_lt_of_cell? _ _ (hHeld.2.2.2.2.2.2.2))).trans (hHeld.2.2.2.2.2.2.2)⟩ (fun hHeld => ?_)
                          clear hK K
                          refine norm_ (a' := ?_) ?_ ?_
                          rotate_left
                          · show Act.put _ (some 50) _ = _
                            simp only [Act.put, List.setIfInBounds_toArray, List.set_cons_zero, List.set_cons_succ, i64_w, i32_w]
                            rfl
                          refine last_ (i := 8) (N := some 51) #[true, true, true, true, true, true, true, true, true, false, false] rfl rfl (one_of HT_.out (by kernel_rfl)) (by decide) (fun K hK => ?_)
                          refine Kd.R_append_step k29 (w0 := w) w.heap.size (by rfl) (.tmp 44) (.tmp 50) 23 29 (.agg #[(.int .i64 0), (.int .i64 0), (.int .i64 0), (.int .i64 0)]) 32 rfl Try.underlying23 info29 rfl (by decide) (by omega) u556001 x556001_2 (⟨(rd_T29 l0_1 x8_2).f0, (rd_T29 l0_1 x8_2).f1, (rd_T29 l0_1 x8_2).f2, (rd_T29 l0_1 x8_2).f3⟩ : S29) [.int .i64 ((rd_T29 l0_1 x8_2).f0), .int .i64 ((rd_T29 l0_1 x8_2).f1), .int .i64 ((rd_T29 l0_1 x8_2).f2), .int .i64 ((rd_T29 l0_1 x8_2).f3)] (fun k_ => (w.heap.size ≤ k_)) (fun _ => False) rfl rfl ?aP (fun _ hk => hk.elim) ?aF ?aO ?aB ?aS ?aL ?_
                          (case aP => exact k29_mkM _ _ _ (⟨(rd_T29 l0_1 x8_2).f0, (rd_T29 l0_1 x8_2).f1, (rd_T29 l0_1 x8_2).f2, (rd_T29 l0_1 x8_2).f3⟩ : S29))
                          (case aB => exact (by repeat (first | (with_reducible first | exact HB.out | apply bA | apply bN | apply bD | refine bS ?_ ‹_›) | exact HB.out)))
                          (case aF => exact (fun k_ hk => (Nat.le_trans (below_size (by repeat (first | (with_reducible first | exact HB.out | apply bA | apply bN | apply bD | refine bS ?_ ‹_›) | exact HB.out))) hk)))
                          (case aO => exact (rk HO_556001.out))
                          (case aS => exact (below_size (by repeat (first | (with_reducible first | exact HB.out | apply bA | apply bN | apply bD | refine bS ?_ ‹_›) | exact HB.out))))
                          (case aL => have := LMc43.out; omega)
                          intro v565 w48 ho hb hg hat
                          rw [← Ny564.out] at ho
                          have n0_ := Aside0.mk (Kd.R_over' (rk HO_7.out) (Kd.R_typed (rk HO_556001.out)) (by decide) hg)
                          have n1_ := Aside0.mk (Kd.V_afterv (ok := (fun k_ => ((P0_0_ k_ ∨ P0_1_ k_) ∨ w.heap.size ≤ k_) ∧ some k_ ≠ (u7 : Value).ownBlock ∧ some k_ ≠ (.slice (some ⟨go16, 0, none⟩) y556.length co22 : Value).ownBlock ∧ k_ ≠ gb547 ∧ k_ ≠ gb548 ∧ k_ ≠ gb555)) (by (with_reducible repeat (first | apply Kd.V_alloc | apply Kd.V_drewN | apply Kd.V_drew)); exact Kd.V_mono HO_548000.out (fun _ hk => ⟨⟨hk.1, ⟨hk.2.1, ⟨hk.2.2.1, ⟨hk.2.2.2.2.1, ⟨hk.2.2.2.2.2.1, hk.2.2.2.2.2.2⟩⟩⟩⟩⟩, hk.2.2.2.1⟩)) hg hat)
                          have n2_ := Aside0.mk (Kd.V_afterv (ok := (fun k_ => ((P0_0_ k_ ∨ P0_1_ k_) ∨ w.heap.size ≤ k_) ∧ some k_ ≠ (u7 : Value).ownBlock ∧ some k_ ≠ (.slice (some ⟨go16, 0, none⟩) y556.length co22 : Value).ownBlock ∧ k_ ≠ gb547 ∧ k_ ≠ gb548 ∧ k_ ≠ gb555)) (by (with_reducible repeat (first | apply Kd.V_alloc | apply Kd.V_drewN | apply Kd.V_drew)); exact Kd.V_mono HO_548001.out (fun _ hk => ⟨⟨hk.1, ⟨hk.2.1, ⟨hk.2.2.1, ⟨hk.2.2.2.2.1, ⟨hk.2.2.2.2.2.1, hk.2.2.2.2.2.2⟩⟩⟩⟩⟩, hk.2.2.2.1⟩)) hg hat)
                          have n3_ := Aside0.mk (Kd.R_over' (rk HO_556000.out) (Kd.R_typed (rk HO_556001.out)) (by decide) hg)
                          have n4_ := Aside0.mk (blk_grown (bk BK547.out) hg (Kd.R_ne HO_556001.out BK547.out (by decide)))
                          have n5_ := Aside0.mk (blk_grown (bk BK548.out) hg (Kd.R_ne HO_556001.out BK548.out (by decide)))
                          have n6_ := Aside0.mk (blk_grown (bk BK555.out) hg (Kd.R_ne HO_556001.out BK555.out (by decide)))
                          have n7_ := Aside0.mk (hb)
                          have n8_ := Aside0.mk (ho)
                          clear HO_7
                          clear HO_548000
                          clear HO_548001
                          clear HO_556000
                          clear BK547
                          clear BK548
                          clear BK555
                          clear HB
                          clear HO_556001
                          have HO_7 := n0_
                          have HO_548000 := n1_
                          have HO_548001 := n2_
                          have HO_556000 := n3_
                          have BK547 := n4_
                          have BK548 := n5_
                          have BK555 := n6_
                          have HB := n7_
                          have HO566 := n8_
                          clear n0_ n1_ n2_ n3_ n4_ n5_ n6_ n7_ n8_
                          clear ho hb hg hat
                          obtain ⟨Ao49, co49, eo49⟩ := Kd.R_slice HO566.out
                          (first | subst eo49 | (injection eo49 with f1_ f2_ f3_; have f4_ := f1_.symm; have f5_ := f3_.symm; clear f1_ f2_ f3_; subst f4_; subst f5_))
                          refine hK.out _ _ ?_
                          clear hK K
                          refine norm_ (a' := ?_) ?_ ?_
                          rotate_left
                          · show Act.put _ (some 51) _ = _
                            simp only [Act.put, List.setIfInBounds_toArray, List.set_cons_zero, List.set_cons_succ, i64_w, i32_w]
                            rfl
                          refine pure_ (i := 9) (N := some 52) (v := ?_) (a' := ?_) #[true, true, true, true, true, true, true, true, true, true, false] rfl rfl (any_of HT_.out (by kernel_rfl)) (fun _ _ _ h => h) (Or.inl ⟨by rfl, ?_⟩) ?_ ?_
                          rotate_left
                          · intro w'
                            go_simp
                            with_reducible rfl
                          rotate_left
                          · simp only [Act.put, List.setIfInBounds_toArray, List.set_cons_zero, List.set_cons_succ, i64_w, i32_w]
                            rfl
                          refine last_ (i := 10) (N := none) #[true, true, true, true, true, true, true, true, true, true, true] rfl rfl (one_of HT_.out (by kernel_rfl)) (by decide) (fun K hK => ?_)
                          have hs50 : w48.cell? ⟨gb555, 1, none⟩ = some (u556001) := (blk_cell BK555.out 1).trans rfl
                          have hfs50 := blk_frozen BK555.out 1
                          have hns50_0 := NB547_555.out
                          have hns50_1 := NB548_555.out
                          have hms50_0 := NB555_547.out
                          have hms50_1 := NB555_548.out
                          refine skip_ (w1 := ?_) (by rfl) rfl ?_ ?_
                          rotate_left
                          · go_simp
                            rfl
                          refine hK.out _ _ ?_
                          clear hK K
                          refine done_ (done_of HT_.out (by kernel_rfl)) ?_
                          try go_wp2
                          (try simp only [← hl556000_2])
                          go_roundg k2
                          case measure => have := HJ2.out; have := HK2.out; omega
                          case rel => exact ⟨(x7_2), (wrap64 (x8_2 + 1)), (y564), (.slice Ao49 y564.length co49), (by first | rfl | (simp; done) | (simp [*]; done)), H', ⟨by have := HJ2.out; have := HK2.out; omega⟩, ⟨by (try simp only [hl556000_2]); (with_reducible repeat (first | apply Kd.R_alloc | apply Kd.R_drewN | apply Kd.R_drew)); exact Kd.R_mono (Kd.R_far (p := ⟨gb555, 1, none⟩) (Kd.R_types HO_7.out BK555.out (by decide)) (fun _ hk => hk.2) (.slice Ao49 y564.length co49)) (fun _ hk => ⟨hk.1.1, hk.1.2⟩)⟩, ⟨by (try simp only [hl556000_2]); (with_reducible repeat (first | apply Kd.V_alloc | apply Kd.V_drewN | apply Kd.V_drew)); exact Kd.V_mono (Kd.V_far (p := ⟨gb555, 1, none⟩) (Kd.V_mono HO_548000.out (fun k_ hk => (⟨hk, hk.1.2.2.2.2.2⟩ : _ ∧ k_ ≠ gb555))) (fun _ hk => hk.2) (.slice Ao49 y564.length co49)) (fun _ hk => ⟨hk.1.1.1, ⟨hk.1.1.2.1, ⟨hk.1.1.2.2.1, ⟨hk.1.2, ⟨hk.1.1.2.2.2.1, ⟨hk.1.1.2.2.2.2.1, hk.1.1.2.2.2.2.2⟩⟩⟩⟩⟩⟩)⟩, ⟨by (try simp only [hl556000_2]); (with_reducible repeat (first | apply Kd.V_alloc | apply Kd.V_drewN | apply Kd.V_drew)); exact Kd.V_mono (Kd.V_far (p := ⟨gb555, 1, none⟩) (Kd.V_mono HO_548001.out (fun k_ hk => (⟨hk, hk.1.2.2.2.2.2⟩ : _ ∧ k_ ≠ gb555))) (fun _ hk => hk.2) (.slice Ao49 y564.length co49)) (fun _ hk => ⟨hk.1.1.1, ⟨hk.1.1.2.1, ⟨hk.1.1.2.2.1, ⟨hk.1.2, ⟨hk.1.1.2.2.2.1, ⟨hk.1.1.2.2.2.2.1, hk.1.1.2.2.2.2.2⟩⟩⟩⟩⟩⟩)⟩, ⟨by (try simp only [hl556000_2]); (with_reducible repeat (first | apply Kd.R_alloc | apply Kd.R_drewN | apply Kd.R_drew)); exact Kd.R_mono (Kd.R_far (p := ⟨gb555, 1, none⟩) (Kd.R_types HO_556000.out BK555.out (by decide)) (fun _ hk => hk.2) (.slice Ao49 y564.length co49)) (fun _ hk => ⟨hk.1.1, hk.1.2⟩)⟩, ⟨by (try simp only [hl556000_2]); (with_reducible repeat (first | apply Kd.R_alloc | apply Kd.R_drewN | apply Kd.R_drew)); exact Kd.R_mono (Kd.R_far (p := ⟨gb555, 1, none⟩) (Kd.R_types HO566.out BK555.out (by decide)) (fun _ hk => hk.2) (.slice Ao49 y564.length co49)) (fun _ hk => hk.1)⟩, ⟨by (try simp only [hl556000_2]); (with_reducible repeat (first | refine blk_drewN ?_ _ | refine blk_drew ?_ | refine blk_alloc ?_ _)); refine blk_far ?_ NB547_555.out _; (with_reducible repeat (first | refine blk_drewN ?_ _ | refine blk_drew ?_ | refine blk_alloc ?_ _)); exact BK547.out⟩, ⟨by (try simp only [hl556000_2]); (with_reducible repeat (first | refine blk_drewN ?_ _ | refine blk_drew ?_ | refine blk_alloc ?_ _)); refine blk_far ?_ NB548_555.out _; (with_reducible repeat (first | refine blk_drewN ?_ _ | refine blk_drew ?_ | refine blk_alloc ?_ _)); exact BK548.out⟩, ⟨by (try simp only [hl556000_2]); (with_reducible repeat (first | refine blk_drewN ?_ _ | refine blk_drew ?_ | refine blk_alloc ?_ _)); refine blk_put (cs := #[.slice (some ⟨go16, 0, none⟩) y556.length co22, u556001]) ?_ 1 _ rfl; (with_reducible repeat (first | refine blk_drewN ?_ _ | refine blk_drew ?_ | refine blk_alloc ?_ _)); exact BK555.out⟩, ⟨by repeat (first | (with_reducible first | exact HB.out | apply below_alloc | apply pw_below_drewN | apply below_drew1 | refine below_set ?_ GE547.out | refine below_set ?_ GE548.out | refine below_set ?_ GE555.out) | exact HB.out)⟩⟩
                        · rw [if_neg c43] at H
                          exact absurd H (by simp)
                    · rw [if_neg c32] at H
                      exact absurd H (by simp)
                  · rw [if_neg c31] at H
                    have c31b0 : decide (x8_2 < (l0_1.length : Int)) = false := decide_eq_false c31
                    clear c31
                    simp only [Option.some.injEq, Prod.mk.injEq] at H
                    obtain ⟨rfl, rfl, rfl⟩ := H
                    have hnb51 := NB547_548.out
                    have hnc51 := NB548_547.out
                    have hnb52 := NB547_555.out
                    have hnc52 := NB555_547.out
                    have hcz53_0 : wr.cell? ⟨gb547, 0, none⟩ = some (.slice A0_0 l0_0.length c0_0) := (blk_cell BK547.out 0).trans rfl
                    have hcz53_1 : wr.cell? ⟨gb547, 1, none⟩ = some (.slice A0_1 l0_1.length c0_1) := (blk_cell BK547.out 1).trans rfl
                    have hfz53_0 := blk_frozen BK547.out 0
                    have hfz53_1 := blk_frozen BK547.out 1
                    have hnb54 := NB555_548.out
                    have hnc54 := NB548_555.out
                    have hcz55_0 : wr.cell? ⟨gb555, 0, none⟩ = some (.slice (some ⟨go16, 0, none⟩) y556.length co22) := (blk_cell BK555.out 0).trans rfl
                    have hcz55_1 : wr.cell? ⟨gb555, 1, none⟩ = some (u556001) := (blk_cell BK555.out 1).trans rfl
                    have hfz55_0 := blk_frozen BK555.out 0
                    have hfz55_1 := blk_frozen BK555.out 1
                    have hcz56_0 : wr.cell? ⟨gb548, 0, none⟩ = some (.slice none 0 0) := (blk_cell BK548.out 0).trans rfl
                    have hcz56_1 : wr.cell? ⟨gb548, 1, none⟩ = some (.slice none 0 0) := (blk_cell BK548.out 1).trans rfl
                    have hfz56_0 := blk_frozen BK548.out 0
                    have hfz56_1 := blk_frozen BK548.out 1
                    obtain ⟨Ao57, co57, eo57⟩ := Kd.R_slice HO_556001.out
                    subst eo57
                    go_wp2
                    refine bodyPost_ret (results_ct rfl _ _ gb548 25 #[.slice (some ⟨go16, 0, none⟩) y556.length co22, .slice Ao57 x556001_2.length co57] (0, 0) _ rfl (by (with_reducible repeat (first | refine blk_drewN ?_ _ | refine blk_drew ?_ | refine blk_alloc ?_ _)); refine blk_put (cs := #[.slice (some ⟨go16, 0, none⟩) y556.length co22, .slice none 0 0]) ?_ 1 _ rfl; (with_reducible repeat (first | refine blk_drewN ?_ _ | refine blk_drew ?_ | refine blk_alloc ?_ _)); refine blk_put (cs := #[.slice none 0 0, .slice none 0 0]) ?_ 0 _ rfl; (with_reducible repeat (first | refine blk_drewN ?_ _ | refine blk_drew ?_ | refine blk_alloc ?_ _)); exact BK548.out) Try.underlying25 rfl (by kernel_rfl)) rfl ?_
                    exact ⟨_, _, _, by first | rfl | (simp [errW_none, errW_some] <;> rfl) | (simp [*, errW_none, errW_some] <;> rfl), Kd.V_mono (Kd.R_V (by (with_reducible repeat (first | apply Kd.R_alloc | apply Kd.R_drewN | apply Kd.R_drew)); exact Kd.R_mono (Kd.R_far (p := ⟨gb548, 1, none⟩) (Kd.R_far (p := ⟨gb548, 0, none⟩) (Kd.R_types HO_556000.out BK548.out (by decide)) (fun _ hk => hk.2) (.slice (some ⟨go16, 0, none⟩) y556.length co22)) (fun _ hk => hk.2) (.slice Ao57 x556001_2.length co57)) (fun _ hk => And.intro hk.1.1 hk.1.2))) (fun k_ hk => by first | exact ⟨(.inr (hk.1)), hk.2⟩ | exact (.inr (hk))), Kd.V_mono (Kd.R_V (by (with_reducible repeat (first | apply Kd.R_alloc | apply Kd.R_drewN | apply Kd.R_drew)); exact Kd.R_mono (Kd.R_far (p := ⟨gb548, 1, none⟩) (Kd.R_far (p := ⟨gb548, 0, none⟩) (Kd.R_types (Kd.R_apart' HO_556001.out (Kd.R_typed HO_7.out) (by decide)) BK548.out (by decide)) (fun _ hk => hk.2) (.slice (some ⟨go16, 0, none⟩) y556.length co22)) (fun _ hk => hk.2) (.slice Ao57 x556001_2.length co57)) (fun _ hk => And.intro hk.1.1 hk.1.2))) (fun k_ hk => by first | exact ⟨(.inr (hk.1)), hk.2⟩ | exact (.inr (hk))), by (with_reducible repeat (first | apply Kd.R_alloc | apply Kd.R_drewN | apply Kd.R_drew)); exact Kd.R_mono (Kd.R_far (p := ⟨gb548, 1, none⟩) (Kd.R_far (p := ⟨gb548, 0, none⟩) (Kd.R_types HO_7.out BK548.out (by decide)) (fun _ hk => hk.2) (.slice (some ⟨go16, 0, none⟩) y556.length co22)) (fun _ hk => hk.2) (.slice Ao57 x556001_2.length co57)) (fun _ hk => hk.1.1), by repeat (first | (with_reducible first | exact HB.out | apply below_alloc | apply pw_below_drewN | apply below_drew1 | refine below_set ?_ GE547.out | refine below_set ?_ GE548.out | refine below_set ?_ GE555.out) | exact HB.out)⟩
            · rw [if_neg c15] at H
              exact absurd H (by simp)
          · rw [if_neg c14] at H
            exact absurd H (by simp)
        · rw [if_neg c13] at H
          exact absurd H (by simp)

end Go.Proofs.Ytgiofigjnchfeaa.Q
