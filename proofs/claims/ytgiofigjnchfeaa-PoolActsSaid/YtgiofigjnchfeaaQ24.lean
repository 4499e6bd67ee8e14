/- This text was written by a program of this session: what each Go function computes, as a Lean function, and that its call does so. -/
import Derived.Test.YtgiofigjnchfeaaQ0
import Derived.Test.YtgiofigjnchfeaaV3
namespace Go.Proofs.Ytgiofigjnchfeaa.Q
open Go.RowKit Go.Proofs.YtgiofigjnchfeaaW.PrintWords Go.Proofs.YtgiofigjnchfeaaW.PrintLast Go.Proofs.YtgiofigjnchfeaaW.PrintMore
attribute [local go_sem] max2_int min2_int max_two min_two max_three min_three max_four min_four   -- for this text's walks alone
set_option linter.unusedVariables false
set_option linter.unusedSimpArgs false

/-! ### interchangeref13_At: function 24 -/
def interchangeref13_At.l0 : Nat → Int → Int → Int → List Int → List (S29) → Option (Int × Int × Int × Int × Bool)
 | 0, _, _, _, _, _ => none
 | k + 1, x1, x2, x8, x367000, x367001 => if x8 < (x367001.length : Int) then (if 0 ≤ x8 then (if ((rd_T29 x367001 x8).f0) = x1 then (if ((rd_T29 x367001 x8).f1) = x2 then (some ((rd_T29 x367001 x8).f0, (rd_T29 x367001 x8).f1, (rd_T29 x367001 x8).f2, (rd_T29 x367001 x8).f3, true)) else (interchangeref13_At.l0 k x1 x2 (wrap64 (x8 + 1)) x367000 x367001)) else (interchangeref13_At.l0 k x1 x2 (wrap64 (x8 + 1)) x367000 x367001)) else (none)) else (some (0, 0, 0, 0, false))
def interchangeref13_At.f (k : Nat) (l0_0 : List Int) (l0_1 : List (S29)) (a1 : Int) (a2 : Int) : Option (Int × Int × Int × Int × Bool) := interchangeref13_At.l0 k a1 a2 0 l0_0 l0_1
theorem interchangeref13_At.mono_l : ∀ k, (∀ y0 y1 y2 y3 y4, LeO (interchangeref13_At.l0 k y0 y1 y2 y3 y4) (interchangeref13_At.l0 (k + 1) y0 y1 y2 y3 y4))
 | 0 => fun _ _ _ _ _ r h => by simp [interchangeref13_At.l0] at h
 | k + 1 => by
  have ih0 := interchangeref13_At.mono_l k
  ·
   intro y0 y1 y2 y3 y4
   unfold interchangeref13_At.l0
   repeat' first
   | (with_reducible exact ih0 _ _ _ _ _)
   | (with_reducible exact LeO.refl _)
   | (with_reducible exact LeO.none _)
   | (with_reducible refine LeO.ite ?_ ?_)
   | (with_reducible refine LeO.bind ?_ (fun _ => ?_))
   | exact ih0 _ _ _ _ _
   | exact LeO.none _
   | refine LeO.ite ?_ ?_
   | refine LeO.bind ?_ (fun _ => ?_)
theorem interchangeref13_At.mono : ∀ a0 a1 a2 a3 k, LeO (interchangeref13_At.f k a0 a1 a2 a3) (interchangeref13_At.f (k + 1) a0 a1 a2 a3) := by
 intro a0 a1 a2 a3 k
 have ih0 := interchangeref13_At.mono_l k
 unfold interchangeref13_At.f
 repeat' first
   | (with_reducible exact ih0 _ _ _ _ _)
   | (with_reducible exact LeO.refl _)
   | (with_reducible exact LeO.none _)
   | (with_reducible refine LeO.ite ?_ ?_)
   | (with_reducible refine LeO.bind ?_ (fun _ => ?_))
   | exact ih0 _ _ _ _ _
   | exact LeO.none _
   | refine LeO.ite ?_ ?_
   | refine LeO.bind ?_ (fun _ => ?_)
set_option maxHeartbeats 8000000 in
set_option maxRecDepth 100000 in
theorem interchangeref13_At.calls (k : Nat) (A0_0 : Option Addr) (c0_0 : Nat) (l0_0 : List Int) (A0_1 : Option Addr) (c0_1 : Nat) (l0_1 : List (S29)) (a1 : Int) (a2 : Int) (r1 : Int) (r2 : Int) (r3 : Int) (r4 : Int) (r5 : Bool) (w : World) (hr0_0 : Kd.C (Kd.int .i64) w A0_0 l0_0.length l0_0) (hc0_0 : l0_0.length ≤ c0_0) (hr0_1 : Kd.C k29 w A0_1 l0_1.length l0_1) (hc0_1 : l0_1.length ≤ c0_1) (h : interchangeref13_At.f k l0_0 l0_1 a1 a2 = some (r1, r2, r3, r4, r5)) :
  Calls Try.prog 24 #[.agg #[.slice A0_0 l0_0.length c0_0, .slice A0_1 l0_1.length c0_1], .int .i64 a1, .int .i64 a2] w fun e w' => e = .returned (.tuple #[.agg #[.int .i64 r1, .int .i64 r2, .int .i64 r3, .int .i64 r4], .bool r5]) ∧ Below w.heap.size w w' := by
 have hu25 := Try.underlying25
 have hu29 := Try.underlying29
 have HR0_0 := Aside0.mk hr0_0
 have HC0_0 := Aside0.mk hc0_0
 clear hr0_0 hc0_0
 have HR0_1 := Aside0.mk hr0_1
 have HC0_1 := Aside0.mk hc0_1
 clear hr0_1 hc0_1
 have HB := Aside0.mk (Below.refl w.heap.size w)
 have H : (interchangeref13_At.l0 k a1 a2 0 l0_0 l0_1) = some (r1, r2, r3, r4, r5) := h
 clear h
 have H' := Aside0.mk H
 clear H
 go_enter Try.func24, Try.ntmps24
 go_wp2_with (first | ((with_reducible refine gate_dst (N := 3) rfl ?_); refine box_event ?hg (N := 3) ?hd (cs := #[.slice A0_0 l0_0.length c0_0, .slice A0_1 l0_1.length c0_1]) (t := 25) ?hr ?_; (case hd => rfl); (case hg => rfl); (case hr => first | (go_simp; done) | (go_simp; rfl)); intro gb366 hg w4 hbox hb; have BK366 := Aside0.mk (hbox); have GW366 := Aside0.mk ((by rw [hg]; exact (below_size (bl HB.out)) : w.heap.size ≤ gb366)); have GE366 := GW366; replace HB := hs HB hb; clear hb hbox hg) | ((with_reducible refine gate_dst (N := 6) rfl ?_); refine box_event ?hg (N := 6) ?hd (cs := #[.int .i64 0, .int .i64 0, .int .i64 0, .int .i64 0]) (t := 29) ?hr ?_; (case hd => rfl); (case hg => rfl); (case hr => first | (go_simp; done) | (go_simp; rfl)); intro gb367 hg w5 hbox hb; have BK367 := Aside0.mk (hbox); have GW367 := Aside0.mk ((by rw [hg]; exact (below_size (by repeat (first | (with_reducible first | exact HB.out | apply bA | apply bN | apply bD | refine bS ?_ ‹_›) | exact HB.out))) : w.heap.size ≤ gb367)); have GE367 := GW367; have NB366_367 := nl BK366 hg; have NB367_366 := ng BK366 hg; replace BK366 := bb BK366 hb; replace HB := Aside0.mk (below_step (by repeat (first | (with_reducible first | exact HB.out | apply bA | apply bN | apply bD | refine bS ?_ ‹_›) | exact HB.out)) hb); clear hb hbox hg))
 go_loopg [8] k (fun kq v8 w' => ∃ (x8_1 : Int) (x368000_1 : Int) (x368001_1 : Int) (x368002_1 : Int) (x368003_1 : Int), v8 = .int .i64 x8_1 ∧ Aside0 (interchangeref13_At.l0 kq a1 a2 x8_1 l0_0 l0_1 = some (r1, r2, r3, r4, r5)) ∧ Aside0 (kq ≤ k) ∧ Aside0 (w'.heap[gb366]? = some (.cells #[(.slice A0_0 l0_0.length c0_0), (.slice A0_1 l0_1.length c0_1)] 25 (0, 0))) ∧ Aside0 (w'.heap[gb367]? = some (.cells #[.int .i64 x368000_1, .int .i64 x368001_1, .int .i64 x368002_1, .int .i64 x368003_1] 29 (0, 0))) ∧ Aside0 (Below w.heap.size w w'))
 case atStart => exact ⟨(0), (0), (0), (0), (0), (by first | rfl | (simp; done) | (simp [*]; done)), H', ⟨Nat.le_refl _⟩, ⟨by (with_reducible repeat (first | refine blk_drewN ?_ _ | refine blk_drew ?_ | refine blk_alloc ?_ _)); exact BK366.out⟩, ⟨by (with_reducible repeat (first | refine blk_drewN ?_ _ | refine blk_drew ?_ | refine blk_alloc ?_ _)); exact BK367.out⟩, ⟨by repeat (first | (with_reducible first | exact HB.out | apply below_alloc | apply pw_below_drewN | apply below_drew1 | refine below_set ?_ GE366.out | refine below_set ?_ GE367.out) | exact HB.out)⟩⟩
 case round =>
  clear H'
  (try clear c2); (try clear p2)
  obtain ⟨x8_1, x368000_1, x368001_1, x368002_1, x368003_1, rfl, HA, HK1, BK366, BK367, HB⟩ := hrel
  cases gk with
  | zero => exact absurd HA.out (by simp [interchangeref13_At.l0])
  | succ k1 =>
   have H := HA.out
   clear HA
   simp only [interchangeref13_At.l0] at H
   by_cases c6 : x8_1 < (l0_1.length : Int)
   ·
    rw [if_pos c6] at H
    have c6b0 : decide (x8_1 < (l0_1.length : Int)) = true := decide_eq_true c6
    clear c6
    by_cases c7 : 0 ≤ x8_1
    ·
     rw [if_pos c7] at H
     have c7b0 : decide (0 ≤ x8_1) = true := decide_eq_true c7
     clear c7
     by_cases c8 : ((rd_T29 l0_1 x8_1).f0) = a1
     ·
      rw [if_pos c8] at H
      have c8b0 : (((rd_T29 l0_1 x8_1).f0) == a1) = true := beq_iff_eq.mpr c8
      have c8b1 : (((rd_T29 l0_1 x8_1).f0) != a1) = false := bne_eq_false_iff_eq.mpr c8
      clear c8
      by_cases c9 : ((rd_T29 l0_1 x8_1).f1) = a2
      ·
       rw [if_pos c9] at H
       have c9b0 : (((rd_T29 l0_1 x8_1).f1) == a2) = true := beq_iff_eq.mpr c9
       have c9b1 : (((rd_T29 l0_1 x8_1).f1) != a2) = false := bne_eq_false_iff_eq.mpr c9
       clear c9
       simp only [Option.some.injEq, Prod.mk.injEq] at H
       obtain ⟨rfl, rfl, rfl, rfl, rfl⟩ := H
       have hnb10 := NB366_367.out
       have hnc10 := NB367_366.out
       have hcz11_0 : wr.cell? ⟨gb366, 0, none⟩ = some (.slice A0_0 l0_0.length c0_0) := (blk_cell BK366.out 0).trans rfl
       have hcz11_1 : wr.cell? ⟨gb366, 1, none⟩ = some (.slice A0_1 l0_1.length c0_1) := (blk_cell BK366.out 1).trans rfl
       have hfz11_0 := blk_frozen BK366.out 0
       have hfz11_1 := blk_frozen BK366.out 1
       have p368 : 0 ≤ (x8_1 : Int) := of_decide_eq_true (by first | (with_reducible assumption) | assumption)
       have q368 : x8_1 < (l0_1.length : Int) := of_decide_eq_true (by first | (with_reducible assumption) | assumption)
       obtain ⟨ad368, e368, hx368_0, hx368_1, hx368_2, hx368_3⟩ := at_T29 HR0_1.out x8_1 p368 q368
       cases e368
       replace hx368_0 := (HB.out.cell (World.block_lt_of_cell? w _ hx368_0)).trans hx368_0
       replace hx368_1 := (HB.out.cell (World.block_lt_of_cell? w _ hx368_1)).trans hx368_1
       replace hx368_2 := (HB.out.cell (World.block_lt_of_cell? w _ hx368_2)).trans hx368_2
       replace hx368_3 := (HB.out.cell (World.block_lt_of_cell? w _ hx368_3)).trans hx368_3
       replace p368 := eq_true p368
       replace q368 := eq_true q368
       have p369 : 0 ≤ (x8_1 : Int) := of_decide_eq_true (by first | (with_reducible assumption) | assumption)
       have q369 : x8_1 < (l0_1.length : Int) := of_decide_eq_true (by first | (with_reducible assumption) | assumption)
       obtain ⟨ad369, e369, hx369_0, hx369_1, hx369_2, hx369_3⟩ := at_T29 HR0_1.out x8_1 p369 q369
       obtain rfl : ad368 = ad369 := (by injection e369)
       replace hx369_0 := (HB.out.cell (World.block_lt_of_cell? w _ hx369_0)).trans hx369_0
       replace hx369_1 := (HB.out.cell (World.block_lt_of_cell? w _ hx369_1)).trans hx369_1
       replace hx369_2 := (HB.out.cell (World.block_lt_of_cell? w _ hx369_2)).trans hx369_2
       replace hx369_3 := (HB.out.cell (World.block_lt_of_cell? w _ hx369_3)).trans hx369_3
       replace p369 := eq_true p369
       replace q369 := eq_true q369
       have p370 : 0 ≤ (x8_1 : Int) := of_decide_eq_true (by first | (with_reducible assumption) | assumption)
       have q370 : x8_1 < (l0_1.length : Int) := of_decide_eq_true (by first | (with_reducible assumption) | assumption)
       obtain ⟨ad370, e370, hx370_0, hx370_1, hx370_2, hx370_3⟩ := at_T29 HR0_1.out x8_1 p370 q370
       obtain rfl : ad368 = ad370 := (by injection e370)
       replace hx370_0 := (HB.out.cell (World.block_lt_of_cell? w _ hx370_0)).trans hx370_0
       replace hx370_1 := (HB.out.cell (World.block_lt_of_cell? w _ hx370_1)).trans hx370_1
       replace hx370_2 := (HB.out.cell (World.block_lt_of_cell? w _ hx370_2)).trans hx370_2
       replace hx370_3 := (HB.out.cell (World.block_lt_of_cell? w _ hx370_3)).trans hx370_3
       replace p370 := eq_true p370
       replace q370 := eq_true q370
       have hcz12_0 : wr.cell? ⟨gb367, 0, none⟩ = some (.int .i64 x368000_1) := (blk_cell BK367.out 0).trans rfl
       have hcz12_1 : wr.cell? ⟨gb367, 1, none⟩ = some (.int .i64 x368001_1) := (blk_cell BK367.out 1).trans rfl
       have hcz12_2 : wr.cell? ⟨gb367, 2, none⟩ = some (.int .i64 x368002_1) := (blk_cell BK367.out 2).trans rfl
       have hcz12_3 : wr.cell? ⟨gb367, 3, none⟩ = some (.int .i64 x368003_1) := (blk_cell BK367.out 3).trans rfl
       have hfz12_0 := blk_frozen BK367.out 0
       have hfz12_1 := blk_frozen BK367.out 1
       have hfz12_2 := blk_frozen BK367.out 2
       have hfz12_3 := blk_frozen BK367.out 3
       go_wp2
       refine bodyPost_ret (results_ct rfl _ _ gb367 29 #[.int .i64 ((rd_T29 l0_1 x8_1).f0), .int .i64 ((rd_T29 l0_1 x8_1).f1), .int .i64 ((rd_T29 l0_1 x8_1).f2), .int .i64 ((rd_T29 l0_1 x8_1).f3)] (0, 0) _ rfl (by (with_reducible repeat (first | refine blk_drewN ?_ _ | refine blk_drew ?_ | refine blk_alloc ?_ _)); refine blk_put (cs := #[.int .i64 ((rd_T29 l0_1 x8_1).f0), .int .i64 ((rd_T29 l0_1 x8_1).f1), .int .i64 ((rd_T29 l0_1 x8_1).f2), .int .i64 x368003_1]) ?_ 3 _ rfl; (with_reducible repeat (first | refine blk_drewN ?_ _ | refine blk_drew ?_ | refine blk_alloc ?_ _)); refine blk_put (cs := #[.int .i64 ((rd_T29 l0_1 x8_1).f0), .int .i64 ((rd_T29 l0_1 x8_1).f1), .int .i64 x368002_1, .int .i64 x368003_1]) ?_ 2 _ rfl; (with_reducible repeat (first | refine blk_drewN ?_ _ | refine blk_drew ?_ | refine blk_alloc ?_ _)); refine blk_put (cs := #[.int .i64 ((rd_T29 l0_1 x8_1).f0), .int .i64 x368001_1, .int .i64 x368002_1, .int .i64 x368003_1]) ?_ 1 _ rfl; (with_reducible repeat (first | refine blk_drewN ?_ _ | refine blk_drew ?_ | refine blk_alloc ?_ _)); refine blk_put (cs := #[.int .i64 x368000_1, .int .i64 x368001_1, .int .i64 x368002_1, .int .i64 x368003_1]) ?_ 0 _ rfl; (with_reducible repeat (first | refine blk_drewN ?_ _ | refine blk_drew ?_ | refine blk_alloc ?_ _)); exact BK367.out) Try.underlying29 rfl (by kernel_rfl)) rfl ?_
       exact ⟨by first | rfl | (simp [errW_none, errW_some] <;> rfl) | (simp [*, errW_none, errW_some] <;> rfl), by repeat (first | (with_reducible first | exact HB.out | apply below_alloc | apply pw_below_drewN | apply below_drew1 | refine below_set ?_ GE366.out | refine below_set ?_ GE367.out) | exact HB.out)⟩
      ·
       rw [if_neg c9] at H
       have c9b0 : (((rd_T29 l0_1 x8_1).f1) == a2) = false := beq_eq_false_iff_ne.mpr c9
       have c9b1 : (((rd_T29 l0_1 x8_1).f1) != a2) = true := bne_iff_ne.mpr c9
       have H' := Aside0.mk H
       clear H
       have hnb13 := NB366_367.out
       have hnc13 := NB367_366.out
       have hcz14_0 : wr.cell? ⟨gb366, 0, none⟩ = some (.slice A0_0 l0_0.length c0_0) := (blk_cell BK366.out 0).trans rfl
       have hcz14_1 : wr.cell? ⟨gb366, 1, none⟩ = some (.slice A0_1 l0_1.length c0_1) := (blk_cell BK366.out 1).trans rfl
       have hfz14_0 := blk_frozen BK366.out 0
       have hfz14_1 := blk_frozen BK366.out 1
       have p368 : 0 ≤ (x8_1 : Int) := of_decide_eq_true (by first | (with_reducible assumption) | assumption)
       have q368 : x8_1 < (l0_1.length : Int) := of_decide_eq_true (by first | (with_reducible assumption) | assumption)
       obtain ⟨ad368, e368, hx368_0, hx368_1, hx368_2, hx368_3⟩ := at_T29 HR0_1.out x8_1 p368 q368
       cases e368
       replace hx368_0 := (HB.out.cell (World.block_lt_of_cell? w _ hx368_0)).trans hx368_0
       replace hx368_1 := (HB.out.cell (World.block_lt_of_cell? w _ hx368_1)).trans hx368_1
       replace hx368_2 := (HB.out.cell (World.block_lt_of_cell? w _ hx368_2)).trans hx368_2
       replace hx368_3 := (HB.out.cell (World.block_lt_of_cell? w _ hx368_3)).trans hx368_3
       replace p368 := eq_true p368
       replace q368 := eq_true q368
       have p369 : 0 ≤ (x8_1 : Int) := of_decide_eq_true (by first | (with_reducible assumption) | assumption)
       have q369 : x8_1 < (l0_1.length : Int) := of_decide_eq_true (by first | (with_reducible assumption) | assumption)
       obtain ⟨ad369, e369, hx369_0, hx369_1, hx369_2, hx369_3⟩ := at_T29 HR0_1.out x8_1 p369 q369
       obtain rfl : ad368 = ad369 := (by injection e369)
       replace hx369_0 := (HB.out.cell (World.block_lt_of_cell? w _ hx369_0)).trans hx369_0
       replace hx369_1 := (HB.out.cell (World.block_lt_of_cell? w _ hx369_1)).trans hx369_1
       replace hx369_2 := (HB.out.cell (World.block_lt_of_cell? w _ hx369_2)).trans hx369_2
       replace hx369_3 := (HB.out.cell (World.block_lt_of_cell? w _ hx369_3)).trans hx369_3
       replace p369 := eq_true p369
       replace q369 := eq_true q369
       go_wp2
       go_roundg k1
       case measure => have := HK1.out; omega
       case rel => exact ⟨(wrap64 (x8_1 + 1)), (x368000_1), (x368001_1), (x368002_1), (x368003_1), (by first | rfl | (simp; done) | (simp [*]; done)), H', ⟨by have := HK1.out; omega⟩, ⟨by (with_reducible repeat (first | refine blk_drewN ?_ _ | refine blk_drew ?_ | refine blk_alloc ?_ _)); exact BK366.out⟩, ⟨by (with_reducible repeat (first | refine blk_drewN ?_ _ | refine blk_drew ?_ | refine blk_alloc ?_ _)); exact BK367.out⟩, ⟨by repeat (first | (with_reducible first | exact HB.out | apply below_alloc | apply pw_below_drewN | apply below_drew1 | refine below_set ?_ GE366.out | refine below_set ?_ GE367.out) | exact HB.out)⟩⟩
     ·
      rw [if_neg c8] at H
      have c8b0 : (((rd_T29 l0_1 x8_1).f0) == a1) = false := beq_eq_false_iff_ne.mpr c8
      have c8b1 : (((rd_T29 l0_1 x8_1).f0) != a1) = true := bne_iff_ne.mpr c8
      have H' := Aside0.mk H
      clear H
      have hnb15 := NB366_367.out
      have hnc15 := NB367_366.out
      have hcz16_0 : wr.cell? ⟨gb366, 0, none⟩ = some (.slice A0_0 l0_0.length c0_0) := (blk_cell BK366.out 0).trans rfl
      have hcz16_1 : wr.cell? ⟨gb366, 1, none⟩ = some (.slice A0_1 l0_1.length c0_1) := (blk_cell BK366.out 1).trans rfl
      have hfz16_0 := blk_frozen BK366.out 0
      have hfz16_1 := blk_frozen BK366.out 1
      have p368 : 0 ≤ (x8_1 : Int) := of_decide_eq_true (by first | (with_reducible assumption) | assumption)
      have q368 : x8_1 < (l0_1.length : Int) := of_decide_eq_true (by first | (with_reducible assumption) | assumption)
      obtain ⟨ad368, e368, hx368_0, hx368_1, hx368_2, hx368_3⟩ := at_T29 HR0_1.out x8_1 p368 q368
      cases e368
      replace hx368_0 := (HB.out.cell (World.block_lt_of_cell? w _ hx368_0)).trans hx368_0
      replace hx368_1 := (HB.out.cell (World.block_lt_of_cell? w _ hx368_1)).trans hx368_1
      replace hx368_2 := (HB.out.cell (World.block_lt_of_cell? w _ hx368_2)).trans hx368_2
      replace hx368_3 := (HB.out.cell (World.block_lt_of_cell? w _ hx368_3)).trans hx368_3
      replace p368 := eq_true p368
      replace q368 := eq_true q368
      go_wp2
      go_roundg k1
      case measure => have := HK1.out; omega
      case rel => exact ⟨(wrap64 (x8_1 + 1)), (x368000_1), (x368001_1), (x368002_1), (x368003_1), (by first | rfl | (simp; done) | (simp [*]; done)), H', ⟨by have := HK1.out; omega⟩, ⟨by (with_reducible repeat (first | refine blk_drewN ?_ _ | refine blk_drew ?_ | refine blk_alloc ?_ _)); exact BK366.out⟩, ⟨by (with_reducible repeat (first | refine blk_drewN ?_ _ | refine blk_drew ?_ | refine blk_alloc ?_ _)); exact BK367.out⟩, ⟨by repeat (first | (with_reducible first | exact HB.out | apply below_alloc | apply pw_below_drewN | apply below_drew1 | refine below_set ?_ GE366.out | refine below_set ?_ GE367.out) | exact HB.out)⟩⟩
    ·
     rw [if_neg c7] at H
     exact absurd H (by simp)
   ·
    rw [if_neg c6] at H
    have c6b0 : decide (x8_1 < (l0_1.length : Int)) = false := decide_eq_false c6
    clear c6
    simp only [Option.some.injEq, Prod.mk.injEq] at H
    obtain ⟨rfl, rfl, rfl, rfl, rfl⟩ := H
    have hnb17 := NB366_367.out
    have hnc17 := NB367_366.out
    have hcz18_0 : wr.cell? ⟨gb366, 0, none⟩ = some (.slice A0_0 l0_0.length c0_0) := (blk_cell BK366.out 0).trans rfl
    have hcz18_1 : wr.cell? ⟨gb366, 1, none⟩ = some (.slice A0_1 l0_1.length c0_1) := (blk_cell BK366.out 1).trans rfl
    have hfz18_0 := blk_frozen BK366.out 0
    have hfz18_1 := blk_frozen BK366.out 1
    have hcz19_0 : wr.cell? ⟨gb367, 0, none⟩ = some (.int .i64 x368000_1) := (blk_cell BK367.out 0).trans rfl
    have hcz19_1 : wr.cell? ⟨gb367, 1, none⟩ = some (.int .i64 x368001_1) := (blk_cell BK367.out 1).trans rfl
    have hcz19_2 : wr.cell? ⟨gb367, 2, none⟩ = some (.int .i64 x368002_1) := (blk_cell BK367.out 2).trans rfl
    have hcz19_3 : wr.cell? ⟨gb367, 3, none⟩ = some (.int .i64 x368003_1) := (blk_cell BK367.out 3).trans rfl
    have hfz19_0 := blk_frozen BK367.out 0
    have hfz19_1 := blk_frozen BK367.out 1
    have hfz19_2 := blk_frozen BK367.out 2
    have hfz19_3 := blk_frozen BK367.out 3
    go_wp2
    refine bodyPost_ret (results_ct rfl _ _ gb367 29 #[.int .i64 0, .int .i64 0, .int .i64 0, .int .i64 0] (0, 0) _ rfl (by (with_reducible repeat (first | refine blk_drewN ?_ _ | refine blk_drew ?_ | refine blk_alloc ?_ _)); refine blk_put (cs := #[.int .i64 0, .int .i64 0, .int .i64 0, .int .i64 x368003_1]) ?_ 3 _ rfl; (with_reducible repeat (first | refine blk_drewN ?_ _ | refine blk_drew ?_ | refine blk_alloc ?_ _)); refine blk_put (cs := #[.int .i64 0, .int .i64 0, .int .i64 x368002_1, .int .i64 x368003_1]) ?_ 2 _ rfl; (with_reducible repeat (first | refine blk_drewN ?_ _ | refine blk_drew ?_ | refine blk_alloc ?_ _)); refine blk_put (cs := #[.int .i64 0, .int .i64 x368001_1, .int .i64 x368002_1, .int .i64 x368003_1]) ?_ 1 _ rfl; (with_reducible repeat (first | refine blk_drewN ?_ _ | refine blk_drew ?_ | refine blk_alloc ?_ _)); refine blk_put (cs := #[.int .i64 x368000_1, .int .i64 x368001_1, .int .i64 x368002_1, .int .i64 x368003_1]) ?_ 0 _ rfl; (with_reducible repeat (first | refine blk_drewN ?_ _ | refine blk_drew ?_ | refine blk_alloc ?_ _)); exact BK367.out) Try.underlying29 rfl (by kernel_rfl)) rfl ?_
    exact ⟨by first | rfl | (simp [errW_none, errW_some] <;> rfl) | (simp [*, errW_none, errW_some] <;> rfl), by repeat (first | (with_reducible first | exact HB.out | apply below_alloc | apply pw_below_drewN | apply below_drew1 | refine below_set ?_ GE366.out | refine below_set ?_ GE367.out) | exact HB.out)⟩

end Go.Proofs.Ytgiofigjnchfeaa.Q
