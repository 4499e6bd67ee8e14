/- This text was written by a program of this session: what each Go function computes, as a Lean function, and that its call does so. -/
import Derived.Test.YtgiofigjnchfeaaQ0
import Derived.Test.YtgiofigjnchfeaaV3
namespace Go.Proofs.Ytgiofigjnchfeaa.Q
open Go.RowKit Go.Proofs.YtgiofigjnchfeaaW.PrintWords Go.Proofs.YtgiofigjnchfeaaW.PrintLast Go.Proofs.YtgiofigjnchfeaaW.PrintMore
attribute [local go_sem] max2_int min2_int max_two min_two max_three min_three max_four min_four   -- for this text's walks alone
set_option linter.unusedVariables false
set_option linter.unusedSimpArgs false

/-! ### interchangeref13_Of: function 25 -/
def interchangeref13_Of.l0 : Nat → Int → Int → List Int → List (S29) → Option (Int × Int × Int × Int × Bool)
 | 0, _, _, _, _ => none
 | k + 1, x1, x6, x427000, x427001 => if x6 < (x427001.length : Int) then (if x1 ≥ 1 then (if 0 ≤ x6 then (if ((rd_T29 x427001 x6).f3) = x1 then (some ((rd_T29 x427001 x6).f0, (rd_T29 x427001 x6).f1, (rd_T29 x427001 x6).f2, (rd_T29 x427001 x6).f3, true)) else (interchangeref13_Of.l0 k x1 (wrap64 (x6 + 1)) x427000 x427001)) else (none)) else (interchangeref13_Of.l0 k x1 (wrap64 (x6 + 1)) x427000 x427001)) else (some (0, 0, 0, 0, false))
def interchangeref13_Of.f (k : Nat) (l0_0 : List Int) (l0_1 : List (S29)) (a1 : Int) : Option (Int × Int × Int × Int × Bool) := interchangeref13_Of.l0 k a1 0 l0_0 l0_1
theorem interchangeref13_Of.mono_l : ∀ k, (∀ y0 y1 y2 y3, LeO (interchangeref13_Of.l0 k y0 y1 y2 y3) (interchangeref13_Of.l0 (k + 1) y0 y1 y2 y3))
 | 0 => fun _ _ _ _ r h => by simp [interchangeref13_Of.l0] at h
 | k + 1 => by
  have ih0 := interchangeref13_Of.mono_l k
  ·
   intro y0 y1 y2 y3
   unfold interchangeref13_Of.l0
   repeat' first
   | (with_reducible exact ih0 _ _ _ _)
   | (with_reducible exact LeO.refl _)
   | (with_reducible exact LeO.none _)
   | (with_reducible refine LeO.ite ?_ ?_)
   | (with_reducible refine LeO.bind ?_ (fun _ => ?_))
   | exact ih0 _ _ _ _
   | exact LeO.none _
   | refine LeO.ite ?_ ?_
   | refine LeO.bind ?_ (fun _ => ?_)
theorem interchangeref13_Of.mono : ∀ a0 a1 a2 k, LeO (interchangeref13_Of.f k a0 a1 a2) (interchangeref13_Of.f (k + 1) a0 a1 a2) := by
 intro a0 a1 a2 k
 have ih0 := interchangeref13_Of.mono_l k
 unfold interchangeref13_Of.f
 repeat' first
   | (with_reducible exact ih0 _ _ _ _)
   | (with_reducible exact LeO.refl _)
   | (with_reducible exact LeO.none _)
   | (with_reducible refine LeO.ite ?_ ?_)
   | (with_reducible refine LeO.bind ?_ (fun _ => ?_))
   | exact ih0 _ _ _ _
   | exact LeO.none _
   | refine LeO.ite ?_ ?_
   | refine LeO.bind ?_ (fun _ => ?_)
set_option maxHeartbeats 8000000 in
set_option maxRecDepth 100000 in
theorem interchangeref13_Of.calls (k : Nat) (A0_0 : Option Addr) (c0_0 : Nat) (l0_0 : List Int) (A0_1 : Option Addr) (c0_1 : Nat) (l0_1 : List (S29)) (a1 : Int) (r1 : Int) (r2 : Int) (r3 : Int) (r4 : Int) (r5 : Bool) (w : World) (hr0_0 : Kd.C (Kd.int .i64) w A0_0 l0_0.length l0_0) (hc0_0 : l0_0.length ≤ c0_0) (hr0_1 : Kd.C k29 w A0_1 l0_1.length l0_1) (hc0_1 : l0_1.length ≤ c0_1) (h : interchangeref13_Of.f k l0_0 l0_1 a1 = some (r1, r2, r3, r4, r5)) :
  Calls Try.prog 25 #[.agg #[.slice A0_0 l0_0.length c0_0, .slice A0_1 l0_1.length c0_1], .int .i64 a1] w fun e w' => e = .returned (.tuple #[.agg #[.int .i64 r1, .int .i64 r2, .int .i64 r3, .int .i64 r4], .bool r5]) ∧ Below w.heap.size w w' := by
 have hu25 := Try.underlying25
 have hu29 := Try.underlying29
 have HR0_0 := Aside0.mk hr0_0
 have HC0_0 := Aside0.mk hc0_0
 clear hr0_0 hc0_0
 have HR0_1 := Aside0.mk hr0_1
 have HC0_1 := Aside0.mk hc0_1
 clear hr0_1 hc0_1
 have HB := Aside0.mk (Below.refl w.heap.size w)
 have H : (interchangeref13_Of.l0 k a1 0 l0_0 l0_1) = some (r1, r2, r3, r4, r5) := h
 clear h
 have H' := Aside0.mk H
 clear H
 go_enter Try.func25, Try.ntmps25
 go_wp2_with (first | ((with_reducible refine gate_dst (N := 2) rfl ?_); refine box_event ?hg (N := 2) ?hd (cs := #[.slice A0_0 l0_0.length c0_0, .slice A0_1 l0_1.length c0_1]) (t := 25) ?hr ?_; (case hd => rfl); (case hg => rfl); (case hr => first | (go_simp; done) | (go_simp; rfl)); intro gb426 hg w3 hbox hb; have BK426 := Aside0.mk (hbox); have GW426 := Aside0.mk ((by rw [hg]; exact (below_size (bl HB.out)) : w.heap.size ≤ gb426)); have GE426 := GW426; replace HB := hs HB hb; clear hb hbox hg) | ((with_reducible refine gate_dst (N := 4) rfl ?_); refine box_event ?hg (N := 4) ?hd (cs := #[.int .i64 0, .int .i64 0, .int .i64 0, .int .i64 0]) (t := 29) ?hr ?_; (case hd => rfl); (case hg => rfl); (case hr => first | (go_simp; done) | (go_simp; rfl)); intro gb427 hg w4 hbox hb; have BK427 := Aside0.mk (hbox); have GW427 := Aside0.mk ((by rw [hg]; exact (below_size (by repeat (first | (with_reducible first | exact HB.out | apply bA | apply bN | apply bD | refine bS ?_ ‹_›) | exact HB.out))) : w.heap.size ≤ gb427)); have GE427 := GW427; have NB426_427 := nl BK426 hg; have NB427_426 := ng BK426 hg; replace BK426 := bb BK426 hb; replace HB := Aside0.mk (below_step (by repeat (first | (with_reducible first | exact HB.out | apply bA | apply bN | apply bD | refine bS ?_ ‹_›) | exact HB.out)) hb); clear hb hbox hg))
 go_loopg [6] k (fun kq v6 w' => ∃ (x6_1 : Int) (x428000_1 : Int) (x428001_1 : Int) (x428002_1 : Int) (x428003_1 : Int), v6 = .int .i64 x6_1 ∧ Aside0 (interchangeref13_Of.l0 kq a1 x6_1 l0_0 l0_1 = some (r1, r2, r3, r4, r5)) ∧ Aside0 (kq ≤ k) ∧ Aside0 (w'.heap[gb426]? = some (.cells #[(.slice A0_0 l0_0.length c0_0), (.slice A0_1 l0_1.length c0_1)] 25 (0, 0))) ∧ Aside0 (w'.heap[gb427]? = some (.cells #[.int .i64 x428000_1, .int .i64 x428001_1, .int .i64 x428002_1, .int .i64 x428003_1] 29 (0, 0))) ∧ Aside0 (Below w.heap.size w w'))
 case atStart => exact ⟨(0), (0), (0), (0), (0), (by first | rfl | (simp; done) | (simp [*]; done)), H', ⟨Nat.le_refl _⟩, ⟨by (with_reducible repeat (first | refine blk_drewN ?_ _ | refine blk_drew ?_ | refine blk_alloc ?_ _)); exact BK426.out⟩, ⟨by (with_reducible repeat (first | refine blk_drewN ?_ _ | refine blk_drew ?_ | refine blk_alloc ?_ _)); exact BK427.out⟩, ⟨by repeat (first | (with_reducible first | exact HB.out | apply below_alloc | apply pw_below_drewN | apply below_drew1 | refine below_set ?_ GE426.out | refine below_set ?_ GE427.out) | exact HB.out)⟩⟩
 case round =>
  clear H'
  (try clear c2); (try clear p2)
  obtain ⟨x6_1, x428000_1, x428001_1, x428002_1, x428003_1, rfl, HA, HK1, BK426, BK427, HB⟩ := hrel
  cases gk with
  | zero => exact absurd HA.out (by simp [interchangeref13_Of.l0])
  | succ k1 =>
   have H := HA.out
   clear HA
   simp only [interchangeref13_Of.l0] at H
   by_cases c5 : x6_1 < (l0_1.length : Int)
   ·
    rw [if_pos c5] at H
    have c5b0 : decide (x6_1 < (l0_1.length : Int)) = true := decide_eq_true c5
    clear c5
    by_cases c6 : a1 ≥ 1
    ·
     rw [if_pos c6] at H
     have c6b0 : decide (1 ≤ a1) = true := decide_eq_true c6
     clear c6
     by_cases c7 : 0 ≤ x6_1
     ·
      rw [if_pos c7] at H
      have c7b0 : decide (0 ≤ x6_1) = true := decide_eq_true c7
      clear c7
      by_cases c8 : ((rd_T29 l0_1 x6_1).f3) = a1
      ·
       rw [if_pos c8] at H
       have c8b0 : (((rd_T29 l0_1 x6_1).f3) == a1) = true := beq_iff_eq.mpr c8
       have c8b1 : (((rd_T29 l0_1 x6_1).f3) != a1) = false := bne_eq_false_iff_eq.mpr c8
       clear c8
       simp only [Option.some.injEq, Prod.mk.injEq] at H
       obtain ⟨rfl, rfl, rfl, rfl, rfl⟩ := H
       have hnb9 := NB426_427.out
       have hnc9 := NB427_426.out
       have hcz10_0 : wr.cell? ⟨gb426, 0, none⟩ = some (.slice A0_0 l0_0.length c0_0) := (blk_cell BK426.out 0).trans rfl
       have hcz10_1 : wr.cell? ⟨gb426, 1, none⟩ = some (.slice A0_1 l0_1.length c0_1) := (blk_cell BK426.out 1).trans rfl
       have hfz10_0 := blk_frozen BK426.out 0
       have hfz10_1 := blk_frozen BK426.out 1
       have p428 : 0 ≤ (x6_1 : Int) := of_decide_eq_true (by first | (with_reducible assumption) | assumption)
       have q428 : x6_1 < (l0_1.length : Int) := of_decide_eq_true (by first | (with_reducible assumption) | assumption)
       obtain ⟨ad428, e428, hx428_0, hx428_1, hx428_2, hx428_3⟩ := at_T29 HR0_1.out x6_1 p428 q428
       cases e428
       replace hx428_0 := (HB.out.cell (World.block_lt_of_cell? w _ hx428_0)).trans hx428_0
       replace hx428_1 := (HB.out.cell (World.block_lt_of_cell? w _ hx428_1)).trans hx428_1
       replace hx428_2 := (HB.out.cell (World.block_lt_of_cell? w _ hx428_2)).trans hx428_2
       replace hx428_3 := (HB.out.cell (World.block_lt_of_cell? w _ hx428_3)).trans hx428_3
       replace p428 := eq_true p428
       replace q428 := eq_true q428
       have p429 : 0 ≤ (x6_1 : Int) := of_decide_eq_true (by first | (with_reducible assumption) | assumption)
       have q429 : x6_1 < (l0_1.length : Int) := of_decide_eq_true (by first | (with_reducible assumption) | assumption)
       obtain ⟨ad429, e429, hx429_0, hx429_1, hx429_2, hx429_3⟩ := at_T29 HR0_1.out x6_1 p429 q429
       obtain rfl : ad428 = ad429 := (by injection e429)
       replace hx429_0 := (HB.out.cell (World.block_lt_of_cell? w _ hx429_0)).trans hx429_0
       replace hx429_1 := (HB.out.cell (World.block_lt_of_cell? w _ hx429_1)).trans hx429_1
       replace hx429_2 := (HB.out.cell (World.block_lt_of_cell? w _ hx429_2)).trans hx429_2
       replace hx429_3 := (HB.out.cell (World.block_lt_of_cell? w _ hx429_3)).trans hx429_3
       replace p429 := eq_true p429
       replace q429 := eq_true q429
       have hcz11_0 : wr.cell? ⟨gb427, 0, none⟩ = some (.int .i64 x428000_1) := (blk_cell BK427.out 0).trans rfl
       have hcz11_1 : wr.cell? ⟨gb427, 1, none⟩ = some (.int .i64 x428001_1) := (blk_cell BK427.out 1).trans rfl
       have hcz11_2 : wr.cell? ⟨gb427, 2, none⟩ = some (.int .i64 x428002_1) := (blk_cell BK427.out 2).trans rfl
       have hcz11_3 : wr.cell? ⟨gb427, 3, none⟩ = some (.int .i64 x428003_1) := (blk_cell BK427.out 3).trans rfl
       have hfz11_0 := blk_frozen BK427.out 0
       have hfz11_1 := blk_frozen BK427.out 1
       have hfz11_2 := blk_frozen BK427.out 2
       have hfz11_3 := blk_frozen BK427.out 3
       go_wp2
       refine bodyPost_ret (results_ct rfl _ _ gb427 29 #[.int .i64 ((rd_T29 l0_1 x6_1).f0), .int .i64 ((rd_T29 l0_1 x6_1).f1), .int .i64 ((rd_T29 l0_1 x6_1).f2), .int .i64 ((rd_T29 l0_1 x6_1).f3)] (0, 0) _ rfl (by (with_reducible repeat (first | refine blk_drewN ?_ _ | refine blk_drew ?_ | refine blk_alloc ?_ _)); refine blk_put (cs := #[.int .i64 ((rd_T29 l0_1 x6_1).f0), .int .i64 ((rd_T29 l0_1 x6_1).f1), .int .i64 ((rd_T29 l0_1 x6_1).f2), .int .i64 x428003_1]) ?_ 3 _ rfl; (with_reducible repeat (first | refine blk_drewN ?_ _ | refine blk_drew ?_ | refine blk_alloc ?_ _)); refine blk_put (cs := #[.int .i64 ((rd_T29 l0_1 x6_1).f0), .int .i64 ((rd_T29 l0_1 x6_1).f1), .int .i64 x428002_1, .int .i64 x428003_1]) ?_ 2 _ rfl; (with_reducible repeat (first | refine blk_drewN ?_ _ | refine blk_drew ?_ | refine blk_alloc ?_ _)); refine blk_put (cs := #[.int .i64 ((rd_T29 l0_1 x6_1).f0), .int .i64 x428001_1, .int .i64 x428002_1, .int .i64 x428003_1]) ?_ 1 _ rfl; (with_reducible repeat (first | refine blk_drewN ?_ _ | refine blk_drew ?_ | refine blk_alloc ?_ _)); refine blk_put (cs := #[.int .i64 x428000_1, .int .i64 x428001_1, .int .i64 x428002_1, .int .i64 x428003_1]) ?_ 0 _ rfl; (with_reducible repeat (first | refine blk_drewN ?_ _ | refine blk_drew ?_ | refine blk_alloc ?_ _)); exact BK427.out) Try.underlying29 rfl (by kernel_rfl)) rfl ?_
       exact ⟨by first | rfl | (simp [errW_none, errW_some] <;> rfl) | (simp [*, errW_none, errW_some] <;> rfl), by repeat (first | (with_reducible first | exact HB.out | apply below_alloc | apply pw_below_drewN | apply below_drew1 | refine below_set ?_ GE426.out | refine below_set ?_ GE427.out) | exact HB.out)⟩
      ·
       rw [if_neg c8] at H
       have c8b0 : (((rd_T29 l0_1 x6_1).f3) == a1) = false := beq_eq_false_iff_ne.mpr c8
       have c8b1 : (((rd_T29 l0_1 x6_1).f3) != a1) = true := bne_iff_ne.mpr c8
       have H' := Aside0.mk H
       clear H
       have hnb12 := NB426_427.out
       have hnc12 := NB427_426.out
       have hcz13_0 : wr.cell? ⟨gb426, 0, none⟩ = some (.slice A0_0 l0_0.length c0_0) := (blk_cell BK426.out 0).trans rfl
       have hcz13_1 : wr.cell? ⟨gb426, 1, none⟩ = some (.slice A0_1 l0_1.length c0_1) := (blk_cell BK426.out 1).trans rfl
       have hfz13_0 := blk_frozen BK426.out 0
       have hfz13_1 := blk_frozen BK426.out 1
       have p428 : 0 ≤ (x6_1 : Int) := of_decide_eq_true (by first | (with_reducible assumption) | assumption)
       have q428 : x6_1 < (l0_1.length : Int) := of_decide_eq_true (by first | (with_reducible assumption) | assumption)
       obtain ⟨ad428, e428, hx428_0, hx428_1, hx428_2, hx428_3⟩ := at_T29 HR0_1.out x6_1 p428 q428
       cases e428
       replace hx428_0 := (HB.out.cell (World.block_lt_of_cell? w _ hx428_0)).trans hx428_0
       replace hx428_1 := (HB.out.cell (World.block_lt_of_cell? w _ hx428_1)).trans hx428_1
       replace hx428_2 := (HB.out.cell (World.block_lt_of_cell? w _ hx428_2)).trans hx428_2
       replace hx428_3 := (HB.out.cell (World.block_lt_of_cell? w _ hx428_3)).trans hx428_3
       replace p428 := eq_true p428
       replace q428 := eq_true q428
       go_wp2
       go_roundg k1
       case measure => have := HK1.out; omega
       case rel => exact ⟨(wrap64 (x6_1 + 1)), (x428000_1), (x428001_1), (x428002_1), (x428003_1), (by first | rfl | (simp; done) | (simp [*]; done)), H', ⟨by have := HK1.out; omega⟩, ⟨by (with_reducible repeat (first | refine blk_drewN ?_ _ | refine blk_drew ?_ | refine blk_alloc ?_ _)); exact BK426.out⟩, ⟨by (with_reducible repeat (first | refine blk_drewN ?_ _ | refine blk_drew ?_ | refine blk_alloc ?_ _)); exact BK427.out⟩, ⟨by repeat (first | (with_reducible first | exact HB.out | apply below_alloc | apply pw_below_drewN | apply below_drew1 | refine below_set ?_ GE426.out | refine below_set ?_ GE427.out) | exact HB.out)⟩⟩
     ·
      rw [if_neg c7] at H
      exact absurd H (by simp)
    ·
     rw [if_neg c6] at H
     have c6b0 : decide (1 ≤ a1) = false := decide_eq_false c6
     clear c6
     have H' := Aside0.mk H
     clear H
     have hnb14 := NB426_427.out
     have hnc14 := NB427_426.out
     have hcz15_0 : wr.cell? ⟨gb426, 0, none⟩ = some (.slice A0_0 l0_0.length c0_0) := (blk_cell BK426.out 0).trans rfl
     have hcz15_1 : wr.cell? ⟨gb426, 1, none⟩ = some (.slice A0_1 l0_1.length c0_1) := (blk_cell BK426.out 1).trans rfl
     have hfz15_0 := blk_frozen BK426.out 0
     have hfz15_1 := blk_frozen BK426.out 1
     go_wp2
     go_roundg k1
     case measure => have := HK1.out; omega
     case rel => exact ⟨(wrap64 (x6_1 + 1)), (x428000_1), (x428001_1), (x428002_1), (x428003_1), (by first | rfl | (simp; done) | (simp [*]; done)), H', ⟨by have := HK1.out; omega⟩, ⟨by (with_reducible repeat (first | refine blk_drewN ?_ _ | refine blk_drew ?_ | refine blk_alloc ?_ _)); exact BK426.out⟩, ⟨by (with_reducible repeat (first | refine blk_drewN ?_ _ | refine blk_drew ?_ | refine blk_alloc ?_ _)); exact BK427.out⟩, ⟨by repeat (first | (with_reducible first | exact HB.out | apply below_alloc | apply pw_below_drewN | apply below_drew1 | refine below_set ?_ GE426.out | refine below_set ?_ GE427.out) | exact HB.out)⟩⟩
   ·
    rw [if_neg c5] at H
    have c5b0 : decide (x6_1 < (l0_1.length : Int)) = false := decide_eq_false c5
    clear c5
    simp only [Option.some.injEq, Prod.mk.injEq] at H
    obtain ⟨rfl, rfl, rfl, rfl, rfl⟩ := H
    have hnb16 := NB426_427.out
    have hnc16 := NB427_426.out
    have hcz17_0 : wr.cell? ⟨gb426, 0, none⟩ = some (.slice A0_0 l0_0.length c0_0) := (blk_cell BK426.out 0).trans rfl
    have hcz17_1 : wr.cell? ⟨gb426, 1, none⟩ = some (.slice A0_1 l0_1.length c0_1) := (blk_cell BK426.out 1).trans rfl
    have hfz17_0 := blk_frozen BK426.out 0
    have hfz17_1 := blk_frozen BK426.out 1
    have hcz18_0 : wr.cell? ⟨gb427, 0, none⟩ = some (.int .i64 x428000_1) := (blk_cell BK427.out 0).trans rfl
    have hcz18_1 : wr.cell? ⟨gb427, 1, none⟩ = some (.int .i64 x428001_1) := (blk_cell BK427.out 1).trans rfl
    have hcz18_2 : wr.cell? ⟨gb427, 2, none⟩ = some (.int .i64 x428002_1) := (blk_cell BK427.out 2).trans rfl
    have hcz18_3 : wr.cell? ⟨gb427, 3, none⟩ = some (.int .i64 x428003_1) := (blk_cell BK427.out 3).trans rfl
    have hfz18_0 := blk_frozen BK427.out 0
    have hfz18_1 := blk_frozen BK427.out 1
    have hfz18_2 := blk_frozen BK427.out 2
    have hfz18_3 := blk_frozen BK427.out 3
    go_wp2
    refine bodyPost_ret (results_ct rfl _ _ gb427 29 #[.int .i64 0, .int .i64 0, .int .i64 0, .int .i64 0] (0, 0) _ rfl (by (with_reducible repeat (first | refine blk_drewN ?_ _ | refine blk_drew ?_ | refine blk_alloc ?_ _)); refine blk_put (cs := #[.int .i64 0, .int .i64 0, .int .i64 0, .int .i64 x428003_1]) ?_ 3 _ rfl; (with_reducible repeat (first | refine blk_drewN ?_ _ | refine blk_drew ?_ | refine blk_alloc ?_ _)); refine blk_put (cs := #[.int .i64 0, .int .i64 0, .int .i64 x428002_1, .int .i64 x428003_1]) ?_ 2 _ rfl; (with_reducible repeat (first | refine blk_drewN ?_ _ | refine blk_drew ?_ | refine blk_alloc ?_ _)); refine blk_put (cs := #[.int .i64 0, .int .i64 x428001_1, .int .i64 x428002_1, .int .i64 x428003_1]) ?_ 1 _ rfl; (with_reducible repeat (first | refine blk_drewN ?_ _ | refine blk_drew ?_ | refine blk_alloc ?_ _)); refine blk_put (cs := #[.int .i64 x428000_1, .int .i64 x428001_1, .int .i64 x428002_1, .int .i64 x428003_1]) ?_ 0 _ rfl; (with_reducible repeat (first | refine blk_drewN ?_ _ | refine blk_drew ?_ | refine blk_alloc ?_ _)); exact BK427.out) Try.underlying29 rfl (by kernel_rfl)) rfl ?_
    exact ⟨by first | rfl | (simp [errW_none, errW_some] <;> rfl) | (simp [*, errW_none, errW_some] <;> rfl), by repeat (first | (with_reducible first | exact HB.out | apply below_alloc | apply pw_below_drewN | apply below_drew1 | refine below_set ?_ GE426.out | refine below_set ?_ GE427.out) | exact HB.out)⟩

end Go.Proofs.Ytgiofigjnchfeaa.Q
