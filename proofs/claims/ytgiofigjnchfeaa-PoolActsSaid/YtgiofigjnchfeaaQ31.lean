/- This text was written by a program of this session: what each Go function computes, as a Lean function, and that its call does so. -/
import Derived.Test.YtgiofigjnchfeaaQ0
import Derived.Test.YtgiofigjnchfeaaQ52
import Derived.Test.YtgiofigjnchfeaaV
namespace Go.Proofs.Ytgiofigjnchfeaa.Q
open Go.RowKit Go.Proofs.YtgiofigjnchfeaaW.PrintWords Go.Proofs.YtgiofigjnchfeaaW.PrintLast Go.Proofs.YtgiofigjnchfeaaW.PrintMore
attribute [local go_sem] max2_int min2_int max_two min_two max_three min_three max_four min_four   -- for this text's walks alone
set_option linter.unusedVariables false
set_option linter.unusedSimpArgs false

/-! ### interchangeref13_Up: function 31 -/
def interchangeref13_Up.j0 : Nat → Int → Int → Bool → List Int → List (S29) → Option (List Int × (List (S29)) × Int)
  | 0, _, _, _, _, _ => none
  | k + 1, x1, x2, x25, x537000, x537001 => if x25 = true then (some (x537000, x537001, 1)) else (if 0 ≤ x1 then (if x1 < (x537000.length : Int) then (if (rd x537000 x1) = 0 then ((interchangeref13_copied.f x537000 x537001).bind fun bt539 => (if x1 < (bt539.1.length : Int) then (some ((bt539.1.set (x1 : Int).toNat x2), bt539.2, 0)) else (none))) else (some (x537000, x537001, 14))) else (none)) else (none))
def interchangeref13_Up.f (k : Nat) (l0_0 : List Int) (l0_1 : List (S29)) (a1 : Int) (a2 : Int) : Option (List Int × (List (S29)) × Int) := if a1 < 0 then (interchangeref13_Up.j0 k a1 a2 true l0_0 l0_1) else (if a1 ≥ (l0_0.length : Int) then (interchangeref13_Up.j0 k a1 a2 true l0_0 l0_1) else (if a2 < 1 then (interchangeref13_Up.j0 k a1 a2 true l0_0 l0_1) else (interchangeref13_Up.j0 k a1 a2 (decide (a2 > 65535)) l0_0 l0_1)))
theorem interchangeref13_Up.mono_l : ∀ k, (∀ y0 y1 y2 y3 y4, LeO (interchangeref13_Up.j0 k y0 y1 y2 y3 y4) (interchangeref13_Up.j0 (k + 1) y0 y1 y2 y3 y4))
  | 0 => fun _ _ _ _ _ r h => by simp [interchangeref13_Up.j0] at h
  | k + 1 => by
    have ih0 := interchangeref13_Up.mono_l k
    · intro y0 y1 y2 y3 y4
      unfold interchangeref13_Up.j0
      repeat' first
      | (with_reducible exact ih0 _ _ _ _ _)
      | (with_reducible exact LeO.refl _)
      | (with_reducible exact LeO.none _)
      | (with_reducible refine LeO.ite ?_ ?_)
      | (with_reducible refine LeO.bind ?_ (fun _ => ?_))
      | exact ih0 _ _ _ _ _
      | exact LeO.none _
      | refine LeO.ite ?_ ?_
      | refine LeO.bind ?_ (fun _ => ?_)
theorem interchangeref13_Up.mono : ∀ a0 a1 a2 a3 k, LeO (interchangeref13_Up.f k a0 a1 a2 a3) (interchangeref13_Up.f (k + 1) a0 a1 a2 a3) := by
  intro a0 a1 a2 a3 k
  have ih0 := interchangeref13_Up.mono_l k
  unfold interchangeref13_Up.f
  repeat' first
      | (with_reducible exact ih0 _ _ _ _ _)
      | (with_reducible exact LeO.refl _)
      | (with_reducible exact LeO.none _)
      | (with_reducible refine LeO.ite ?_ ?_)
      | (with_reducible refine LeO.bind ?_ (fun _ => ?_))
      | exact ih0 _ _ _ _ _
      | exact LeO.none _
      | refine LeO.ite ?_ ?_
      | refine LeO.bind ?_ (fun _ => ?_)
set_option maxHeartbeats 8000000 in
set_option maxRecDepth 100000 in
theorem interchangeref13_Up.calls (k : Nat) (P0_0_ : Nat → Prop) (A0_0 : Option Addr) (c0_0 : Nat) (l0_0 : List Int) (P0_1_ : Nat → Prop) (A0_1 : Option Addr) (c0_1 : Nat) (l0_1 : List (S29)) (a1 : Int) (a2 : Int) (r1 : List Int) (r2 : List (S29)) (r3 : Int) (w : World) (hs0_0 : Kd.V (Kd.int .i64) 3 w w.heap.size (fun k_ => P0_0_ k_) (.slice A0_0 l0_0.length c0_0) l0_0) (hs0_1 : Kd.V k29 29 w w.heap.size (fun k_ => P0_1_ k_) (.slice A0_1 l0_1.length c0_1) l0_1) (h : interchangeref13_Up.f k l0_0 l0_1 a1 a2 = some (r1, r2, r3)) :
    Calls Try.prog 31 #[.agg #[.slice A0_0 l0_0.length c0_0, .slice A0_1 l0_1.length c0_1], .int .i64 a1, .int .i64 a2] w fun e w' => ∃ v0_ v1_ : Value, e = .returned (.tuple #[.agg #[v0_, v1_], .int .i64 r3]) ∧ Kd.V (Kd.int .i64) 3 w' w.heap.size (fun k_ => ((P0_0_ k_ ∨ P0_1_ k_) ∨ w.heap.size ≤ k_)) v0_ r1 ∧ Kd.V k29 29 w' w.heap.size (fun k_ => ((P0_0_ k_ ∨ P0_1_ k_) ∨ w.heap.size ≤ k_)) v1_ r2 ∧ Below w.heap.size w w' := by
  have hu25 := Try.underlying25
  have HO0_0 := Aside0.mk (show Kd.V (Kd.int .i64) 3 w w.heap.size (fun k_ => ((P0_0_ k_ ∨ P0_1_ k_) ∨ w.heap.size ≤ k_)) (.slice A0_0 l0_0.length c0_0) l0_0 from Kd.V_mono hs0_0 (fun k_ hk => .inl (.inl hk)))
  have HO0_1 := Aside0.mk (show Kd.V k29 29 w w.heap.size (fun k_ => ((P0_0_ k_ ∨ P0_1_ k_) ∨ w.heap.size ≤ k_)) (.slice A0_1 l0_1.length c0_1) l0_1 from Kd.V_mono hs0_1 (fun k_ hk => .inl (.inr hk)))
  have HB := Aside0.mk (Below.refl w.heap.size w)
  have H : (if a1 < 0 then (interchangeref13_Up.j0 k a1 a2 true l0_0 l0_1) else (if a1 ≥ (l0_0.length : Int) then (interchangeref13_Up.j0 k a1 a2 true l0_0 l0_1) else (if a2 < 1 then (interchangeref13_Up.j0 k a1 a2 true l0_0 l0_1) else (interchangeref13_Up.j0 k a1 a2 (decide (a2 > 65535)) l0_0 l0_1)))) = some (r1, r2, r3) := h
  clear h
  have HC4 := Aside0.mk H
  clear H
  go_enter Try.func31, Try.ntmps31
  go_upto_region 1 with (first | ((with_reducible refine gate_dst (N := 3) rfl ?_); (try (refine gate_guard (by rfl) ?_; dsimp only)); refine box_event ?hg (N := 3) ?hd (cs := #[.slice A0_0 l0_0.length c0_0, .slice A0_1 l0_1.length c0_1]) (t := 25) ?hr ?_; (case hd => rfl); (case hg => rfl); (case hr => first | (go_simp; done) | (go_simp; rfl)); intro gb536 hg w5 hbox hb; have n0_ := Aside0.mk (Kd.V_below (Kd.V_elderB (vk HO0_0.out) gb536 (Nat.le_of_eq hg.symm)) hb); have n1_ := Aside0.mk (Kd.V_below (Kd.V_elderB (vk HO0_1.out) gb536 (Nat.le_of_eq hg.symm)) hb); have n2_ := Aside0.mk (below_step (bl HB.out) hb); have n3_ := Aside0.mk (hbox); have n4_ := Aside0.mk ((by rw [hg]; exact (below_size (bl HB.out)) : w.heap.size ≤ gb536)); have n5_ := Aside0.mk ((by rw [hg]; exact (below_size (bl HB.out)) : w.heap.size ≤ gb536)); clear HO0_0; clear HO0_1; clear HB; have HO0_0 := n0_; have HO0_1 := n1_; have HB := n2_; have BK536 := n3_; have GW536 := n4_; have GE536 := n5_; clear n0_ n1_ n2_ n3_ n4_ n5_; clear hb hbox hg) | ((with_reducible refine gate_dst (N := 6) rfl ?_); (try (refine gate_guard (by rfl) ?_; dsimp only)); refine box_event ?hg (N := 6) ?hd (cs := #[.slice none 0 0, .slice none 0 0]) (t := 25) ?hr ?_; (case hd => rfl); (case hg => rfl); (case hr => first | (go_simp; done) | (go_simp; rfl)); intro gb537 hg w6 hbox hb; have n0_ := Aside0.mk (Kd.V_below (Kd.V_elderB (vk HO0_0.out) gb537 (Nat.le_of_eq hg.symm)) hb); have n1_ := Aside0.mk (Kd.V_below (Kd.V_elderB (vk HO0_1.out) gb537 (Nat.le_of_eq hg.symm)) hb); have n2_ := Aside0.mk (blk_below (bk BK536.out) hb); have n3_ := Aside0.mk (below_step (by repeat (first | (with_reducible first | exact HB.out | apply bA | apply bN | apply bD | refine bS ?_ ‹_›) | exact HB.out)) hb); have n4_ := Aside0.mk (hbox); have n5_ := Aside0.mk ((by rw [hg]; exact (below_size (by repeat (first | (with_reducible first | exact HB.out | apply bA | apply bN | apply bD | refine bS ?_ ‹_›) | exact HB.out))) : w.heap.size ≤ gb537)); have n6_ := Aside0.mk ((by rw [hg]; exact (below_size (by repeat (first | (with_reducible first | exact HB.out | apply bA | apply bN | apply bD | refine bS ?_ ‹_›) | exact HB.out))) : w.heap.size ≤ gb537)); have n7_ := Aside0.mk ((by rw [hg]; exact Nat.ne_of_lt (blk_lt (bk BK536.out)) : gb536 ≠ gb537)); have n8_ := Aside0.mk ((by rw [hg]; exact Nat.ne_of_gt (blk_lt (bk BK536.out)) : gb537 ≠ gb536)); clear HO0_0; clear HO0_1; clear BK536; clear HB; have HO0_0 := n0_; have HO0_1 := n1_; have BK536 := n2_; have HB := n3_; have BK537 := n4_; have GW537 := n5_; have GE537 := n6_; have NB536_537 := n7_; have NB537_536 := n8_; clear n0_ n1_ n2_ n3_ n4_ n5_ n6_ n7_ n8_; clear hb hbox hg))
  (try simp only [Act.put, List.setIfInBounds_toArray, List.set_cons_zero, List.set_cons_succ])
  go_cut [25] (fun v25 wc => ∃ (kq : Nat) (x25_3 : Bool), v25 = .bool x25_3 ∧ Aside0 (interchangeref13_Up.j0 kq a1 a2 x25_3 l0_0 l0_1 = some (r1, r2, r3)) ∧ Aside0 (kq ≤ k) ∧ Aside0 (Kd.V (Kd.int .i64) 3 wc w.heap.size (fun k_ => ((P0_0_ k_ ∨ P0_1_ k_) ∨ w.heap.size ≤ k_) ∧ k_ ≠ gb536 ∧ k_ ≠ gb537) (.slice A0_0 l0_0.length c0_0) l0_0) ∧ Aside0 (Kd.V k29 29 wc w.heap.size (fun k_ => ((P0_0_ k_ ∨ P0_1_ k_) ∨ w.heap.size ≤ k_) ∧ k_ ≠ gb536 ∧ k_ ≠ gb537) (.slice A0_1 l0_1.length c0_1) l0_1) ∧ Aside0 (wc.heap[gb536]? = some (.cells #[(.slice A0_0 l0_0.length c0_0), (.slice A0_1 l0_1.length c0_1)] 25 (0, 0))) ∧ Aside0 (wc.heap[gb537]? = some (.cells #[(.slice none 0 0), (.slice none 0 0)] 25 (0, 0))) ∧ Aside0 (Below w.heap.size w wc))
  case first =>
    have H := HC4.out
    clear HC4
    by_cases c7 : a1 < 0
    · rw [if_pos c7] at H
      have c7b0 : decide (a1 < 0) = true := decide_eq_true c7
      clear c7
      (first | rw [c7b0] | (simp only [i64_w, i32_w]; rw [c7b0]) | skip)
      have H' := Aside0.mk H
      clear H
      go_wp2
      go_meet
      case rel => exact ⟨_, (true), (by first | rfl | (simp; done) | (simp [*]; done)), H', ⟨by first | omega | exact Nat.le_refl _⟩, ⟨by (with_reducible repeat (first | apply Kd.V_alloc | apply Kd.V_drewN | apply Kd.V_drew)); exact Kd.V_mono HO0_0.out (fun _ hk => ⟨hk.1.1, ⟨hk.1.2, hk.2⟩⟩)⟩, ⟨by (with_reducible repeat (first | apply Kd.V_alloc | apply Kd.V_drewN | apply Kd.V_drew)); exact Kd.V_mono HO0_1.out (fun _ hk => ⟨hk.1.1, ⟨hk.1.2, hk.2⟩⟩)⟩, ⟨by (with_reducible repeat (first | refine blk_drewN ?_ _ | refine blk_drew ?_ | refine blk_alloc ?_ _)); exact BK536.out⟩, ⟨by (with_reducible repeat (first | refine blk_drewN ?_ _ | refine blk_drew ?_ | refine blk_alloc ?_ _)); exact BK537.out⟩, ⟨by repeat (first | (with_reducible first | exact HB.out | apply below_alloc | apply pw_below_drewN | apply below_drew1 | refine below_set ?_ GE536.out | refine below_set ?_ GE537.out) | exact HB.out)⟩⟩
    · rw [if_neg c7] at H
      have c7b0 : decide (a1 < 0) = false := decide_eq_false c7
      clear c7
      (first | rw [c7b0] | (simp only [i64_w, i32_w]; rw [c7b0]) | skip)
      by_cases c8 : a1 ≥ (l0_0.length : Int)
      · rw [if_pos c8] at H
        have c8b0 : decide ((l0_0.length : Int) ≤ a1) = true := decide_eq_true c8
        clear c8
        have H' := Aside0.mk H
        clear H
        have hnb9 := NB536_537.out
        have hnc9 := NB537_536.out
        have hcz10_0 : w6.cell? ⟨gb536, 0, none⟩ = some (.slice A0_0 l0_0.length c0_0) := (blk_cell BK536.out 0).trans rfl
        have hcz10_1 : w6.cell? ⟨gb536, 1, none⟩ = some (.slice A0_1 l0_1.length c0_1) := (blk_cell BK536.out 1).trans rfl
        have hfz10_0 := blk_frozen BK536.out 0
        have hfz10_1 := blk_frozen BK536.out 1
        go_wp2
        go_meet
        case rel => exact ⟨_, (true), (by first | rfl | (simp; done) | (simp [*]; done)), H', ⟨by first | omega | exact Nat.le_refl _⟩, ⟨by (with_reducible repeat (first | apply Kd.V_alloc | apply Kd.V_drewN | apply Kd.V_drew)); exact Kd.V_mono HO0_0.out (fun _ hk => ⟨hk.1.1, ⟨hk.1.2, hk.2⟩⟩)⟩, ⟨by (with_reducible repeat (first | apply Kd.V_alloc | apply Kd.V_drewN | apply Kd.V_drew)); exact Kd.V_mono HO0_1.out (fun _ hk => ⟨hk.1.1, ⟨hk.1.2, hk.2⟩⟩)⟩, ⟨by (with_reducible repeat (first | refine blk_drewN ?_ _ | refine blk_drew ?_ | refine blk_alloc ?_ _)); exact BK536.out⟩, ⟨by (with_reducible repeat (first | refine blk_drewN ?_ _ | refine blk_drew ?_ | refine blk_alloc ?_ _)); exact BK537.out⟩, ⟨by repeat (first | (with_reducible first | exact HB.out | apply below_alloc | apply pw_below_drewN | apply below_drew1 | refine below_set ?_ GE536.out | refine below_set ?_ GE537.out) | exact HB.out)⟩⟩
      · rw [if_neg c8] at H
        have c8b0 : decide ((l0_0.length : Int) ≤ a1) = false := decide_eq_false c8
        clear c8
        by_cases c11 : a2 < 1
        · rw [if_pos c11] at H
          have c11b0 : decide (a2 < 1) = true := decide_eq_true c11
          clear c11
          have H' := Aside0.mk H
          clear H
          have hnb12 := NB536_537.out
          have hnc12 := NB537_536.out
          have hcz13_0 : w6.cell? ⟨gb536, 0, none⟩ = some (.slice A0_0 l0_0.length c0_0) := (blk_cell BK536.out 0).trans rfl
          have hcz13_1 : w6.cell? ⟨gb536, 1, none⟩ = some (.slice A0_1 l0_1.length c0_1) := (blk_cell BK536.out 1).trans rfl
          have hfz13_0 := blk_frozen BK536.out 0
          have hfz13_1 := blk_frozen BK536.out 1
          go_wp2
          go_meet
          case rel => exact ⟨_, (true), (by first | rfl | (simp; done) | (simp [*]; done)), H', ⟨by first | omega | exact Nat.le_refl _⟩, ⟨by (with_reducible repeat (first | apply Kd.V_alloc | apply Kd.V_drewN | apply Kd.V_drew)); exact Kd.V_mono HO0_0.out (fun _ hk => ⟨hk.1.1, ⟨hk.1.2, hk.2⟩⟩)⟩, ⟨by (with_reducible repeat (first | apply Kd.V_alloc | apply Kd.V_drewN | apply Kd.V_drew)); exact Kd.V_mono HO0_1.out (fun _ hk => ⟨hk.1.1, ⟨hk.1.2, hk.2⟩⟩)⟩, ⟨by (with_reducible repeat (first | refine blk_drewN ?_ _ | refine blk_drew ?_ | refine blk_alloc ?_ _)); exact BK536.out⟩, ⟨by (with_reducible repeat (first | refine blk_drewN ?_ _ | refine blk_drew ?_ | refine blk_alloc ?_ _)); exact BK537.out⟩, ⟨by repeat (first | (with_reducible first | exact HB.out | apply below_alloc | apply pw_below_drewN | apply below_drew1 | refine below_set ?_ GE536.out | refine below_set ?_ GE537.out) | exact HB.out)⟩⟩
        · rw [if_neg c11] at H
          have c11b0 : decide (a2 < 1) = false := decide_eq_false c11
          clear c11
          have H' := Aside0.mk H
          clear H
          have hnb14 := NB536_537.out
          have hnc14 := NB537_536.out
          have hcz15_0 : w6.cell? ⟨gb536, 0, none⟩ = some (.slice A0_0 l0_0.length c0_0) := (blk_cell BK536.out 0).trans rfl
          have hcz15_1 : w6.cell? ⟨gb536, 1, none⟩ = some (.slice A0_1 l0_1.length c0_1) := (blk_cell BK536.out 1).trans rfl
          have hfz15_0 := blk_frozen BK536.out 0
          have hfz15_1 := blk_frozen BK536.out 1
          go_wp2
          go_meet
          case rel => exact ⟨_, (decide (a2 > 65535)), (by first | rfl | (simp; done) | (simp [*]; done)), H', ⟨by first | omega | exact Nat.le_refl _⟩, ⟨by (with_reducible repeat (first | apply Kd.V_alloc | apply Kd.V_drewN | apply Kd.V_drew)); exact Kd.V_mono HO0_0.out (fun _ hk => ⟨hk.1.1, ⟨hk.1.2, hk.2⟩⟩)⟩, ⟨by (with_reducible repeat (first | apply Kd.V_alloc | apply Kd.V_drewN | apply Kd.V_drew)); exact Kd.V_mono HO0_1.out (fun _ hk => ⟨hk.1.1, ⟨hk.1.2, hk.2⟩⟩)⟩, ⟨by (with_reducible repeat (first | refine blk_drewN ?_ _ | refine blk_drew ?_ | refine blk_alloc ?_ _)); exact BK536.out⟩, ⟨by (with_reducible repeat (first | refine blk_drewN ?_ _ | refine blk_drew ?_ | refine blk_alloc ?_ _)); exact BK537.out⟩, ⟨by repeat (first | (with_reducible first | exact HB.out | apply below_alloc | apply pw_below_drewN | apply below_drew1 | refine below_set ?_ GE536.out | refine below_set ?_ GE537.out) | exact HB.out)⟩⟩
  case rest =>
    clear HC4
    try clear c1
    try clear p2
    try clear c3
    try clear c7
    try clear c7b0
    try clear c8
    try clear c8b0
    try clear c9
    try clear c11
    try clear c11b0
    try clear c12
    try clear c14
    try clear hcz10_0
    try clear hcz10_1
    try clear hcz13_0
    try clear hcz13_1
    try clear hcz15_0
    try clear hcz15_1
    try clear hfz10_0
    try clear hfz10_1
    try clear hfz13_0
    try clear hfz13_1
    try clear hfz15_0
    try clear hfz15_1
    obtain ⟨kq, x25_3, rfl, HA, HJ3, HO_537000, HO_537001, BK536, BK537, HB⟩ := hcut
    cases kq with
    | zero => exact absurd HA.out (by simp [interchangeref13_Up.j0])
    | succ kj3 =>
      have H := HA.out
      clear HA
      simp only [interchangeref13_Up.j0] at H
      by_cases c16 : x25_3 = true
      · subst c16
        have H1 : (some (l0_0, l0_1, 1)) = some (r1, r2, r3) := by rw [if_pos rfl] at H; exact H
        clear H
        have H := H1
        clear H1
        simp only [Option.some.injEq, Prod.mk.injEq] at H
        obtain ⟨rfl, rfl, rfl⟩ := H
        have hnb17 := NB536_537.out
        have hnc17 := NB537_536.out
        have hcz18_0 : wc.cell? ⟨gb536, 0, none⟩ = some (.slice A0_0 l0_0.length c0_0) := (blk_cell BK536.out 0).trans rfl
        have hcz18_1 : wc.cell? ⟨gb536, 1, none⟩ = some (.slice A0_1 l0_1.length c0_1) := (blk_cell BK536.out 1).trans rfl
        have hfz18_0 := blk_frozen BK536.out 0
        have hfz18_1 := blk_frozen BK536.out 1
        have hcz19_0 : wc.cell? ⟨gb537, 0, none⟩ = some (.slice none 0 0) := (blk_cell BK537.out 0).trans rfl
        have hcz19_1 : wc.cell? ⟨gb537, 1, none⟩ = some (.slice none 0 0) := (blk_cell BK537.out 1).trans rfl
        have hfz19_0 := blk_frozen BK537.out 0
        have hfz19_1 := blk_frozen BK537.out 1
        go_wp2
        refine bodyPost_ret (results_ct rfl _ _ gb537 25 #[.slice A0_0 l0_0.length c0_0, .slice A0_1 l0_1.length c0_1] (0, 0) _ rfl (by (with_reducible repeat (first | refine blk_drewN ?_ _ | refine blk_drew ?_ | refine blk_alloc ?_ _)); refine blk_put (cs := #[.slice A0_0 l0_0.length c0_0, .slice none 0 0]) ?_ 1 _ rfl; (with_reducible repeat (first | refine blk_drewN ?_ _ | refine blk_drew ?_ | refine blk_alloc ?_ _)); refine blk_put (cs := #[.slice none 0 0, .slice none 0 0]) ?_ 0 _ rfl; (with_reducible repeat (first | refine blk_drewN ?_ _ | refine blk_drew ?_ | refine blk_alloc ?_ _)); exact BK537.out) Try.underlying25 rfl (by kernel_rfl)) rfl ?_
        exact ⟨_, _, by first | rfl | (simp [errW_none, errW_some] <;> rfl) | (simp [*, errW_none, errW_some] <;> rfl), by (with_reducible repeat (first | apply Kd.V_alloc | apply Kd.V_drewN | apply Kd.V_drew)); exact Kd.V_mono (Kd.V_far (p := ⟨gb537, 1, none⟩) (Kd.V_far (p := ⟨gb537, 0, none⟩) (Kd.V_mono HO_537000.out (fun k_ hk => (⟨hk, hk.2.2⟩ : _ ∧ k_ ≠ gb537))) (fun _ hk => hk.2) (.slice A0_0 l0_0.length c0_0)) (fun _ hk => hk.2) (.slice A0_1 l0_1.length c0_1)) (fun _ hk => hk.1.1), by (with_reducible repeat (first | apply Kd.V_alloc | apply Kd.V_drewN | apply Kd.V_drew)); exact Kd.V_mono (Kd.V_far (p := ⟨gb537, 1, none⟩) (Kd.V_far (p := ⟨gb537, 0, none⟩) (Kd.V_mono HO_537001.out (fun k_ hk => (⟨hk, hk.2.2⟩ : _ ∧ k_ ≠ gb537))) (fun _ hk => hk.2) (.slice A0_0 l0_0.length c0_0)) (fun _ hk => hk.2) (.slice A0_1 l0_1.length c0_1)) (fun _ hk => hk.1.1), by repeat (first | (with_reducible first | exact HB.out | apply below_alloc | apply pw_below_drewN | apply below_drew1 | refine below_set ?_ GE536.out | refine below_set ?_ GE537.out) | exact HB.out)⟩
      · replace c16 := Bool.eq_false_iff.mpr c16
        subst c16
        have H1 : (if 0 ≤ a1 then (if a1 < (l0_0.length : Int) then (if (rd l0_0 a1) = 0 then ((interchangeref13_copied.f l0_0 l0_1).bind fun bt539 => (if a1 < (bt539.1.length : Int) then (some ((bt539.1.set (a1 : Int).toNat a2), bt539.2, 0)) else (none))) else (some (l0_0, l0_1, 14))) else (none)) else (none)) = some (r1, r2, r3) := by rw [if_neg (show ¬ (false = true) by decide)] at H; exact H
        clear H
        have H := H1
        clear H1
        by_cases c20 : 0 ≤ a1
        · rw [if_pos c20] at H
          have c20b0 : decide (0 ≤ a1) = true := decide_eq_true c20
          clear c20
          by_cases c21 : a1 < (l0_0.length : Int)
          · rw [if_pos c21] at H
            have c21b0 : decide (a1 < (l0_0.length : Int)) = true := decide_eq_true c21
            clear c21
            by_cases c22 : (rd l0_0 a1) = 0
            · rw [if_pos c22] at H
              have c22b0 : ((rd l0_0 a1) == 0) = true := beq_iff_eq.mpr c22
              have c22b1 : ((rd l0_0 a1) != 0) = false := bne_eq_false_iff_eq.mpr c22
              clear c22
              replace H := Option.bind_eq_some_iff.mp H
              obtain ⟨⟨t539, t542⟩, A230, H⟩ := H
              replace H : (if a1 < (t539.length : Int) then (some ((t539.set (a1 : Int).toNat a2), t542, 0)) else (none)) = some (r1, r2, r3) := H
              have A23 := Aside0.mk A230
              clear A230
              by_cases c24 : a1 < (t539.length : Int)
              · rw [if_pos c24] at H
                have c24b0 : decide (a1 < (t539.length : Int)) = true := decide_eq_true c24
                clear c24
                obtain ⟨y546, hy546⟩ : ∃ y_ : List Int, y_ = (t539.set (a1 : Int).toNat a2) := ⟨_, rfl⟩
                replace H : (some (y546, t542, 0)) = some (r1, r2, r3) := by first | (rw [hy546]; with_reducible exact H) | (have H2_ := (Option.bind_some _ _).symm.trans H; rw [hy546]; with_reducible exact H2_) | (have H2_ := (Option.bind_some _ _).symm.trans H; with_reducible exact H2_) | with_reducible exact H | (rw [hy546]; exact H) | exact H
                have Ny546 := Aside0.mk hy546
                clear hy546
                simp only [Option.some.injEq, Prod.mk.injEq] at H
                obtain ⟨rfl, rfl, rfl⟩ := H
                have hnb26 := NB536_537.out
                have hnc26 := NB537_536.out
                have hcz27_0 : wc.cell? ⟨gb536, 0, none⟩ = some (.slice A0_0 l0_0.length c0_0) := (blk_cell BK536.out 0).trans rfl
                have hcz27_1 : wc.cell? ⟨gb536, 1, none⟩ = some (.slice A0_1 l0_1.length c0_1) := (blk_cell BK536.out 1).trans rfl
                have hfz27_0 := blk_frozen BK536.out 0
                have hfz27_1 := blk_frozen BK536.out 1
                have p538 : 0 ≤ (a1 : Int) := of_decide_eq_true (by first | (with_reducible assumption) | assumption)
                have q538 : a1 < (l0_0.length : Int) := of_decide_eq_true (by first | (with_reducible assumption) | assumption)
                obtain ⟨ad538, e538, hx538_0⟩ := Kd.at_int (Kd.V_reads' HO_537000.out).2.2 a1 p538 q538
                cases e538
                replace p538 := eq_true p538
                replace q538 := eq_true q538
                go_wp2_with (first | ((with_reducible refine gate_callee (f := 52) rfl ?_); refine goesL_ (some 35) rfl rfl Try.func52 (by kernel_rfl) rfl #[.agg #[.slice (some ad538) l0_0.length c0_0, .slice A0_1 l0_1.length c0_1]] rfl (by (try simp only [List.map_toArray, List.map_cons, List.map_nil]); first | done | rfl | (simp only [List.length_drop, List.length_take]; rfl)) ?_; (with_reducible refine (interchangeref13_copied.calls _ _ l0_0 _ _ l0_1 t539 t542 _ ?side1 ?side2 ?side3 ?side4 A23.out).mono ?_); (case side1 => repeat (first | exact (Kd.V_reads' HO_537000.out).2.2 | (with_reducible refine Kd.C_alloc ?_ _) | (with_reducible refine Kd.C_drewN ?_ _) | (with_reducible refine Kd.C_drew ?_))); (case side2 => exact (Kd.V_reads' HO_537000.out).2.1); (case side3 => repeat (first | exact (Kd.V_reads' HO_537001.out).2.2 | (with_reducible refine Kd.C_alloc ?_ _) | (with_reducible refine Kd.C_drewN ?_ _) | (with_reducible refine Kd.C_drew ?_))); (case side4 => exact (Kd.V_reads' HO_537001.out).2.1); rintro e w28 ⟨v540, v543, rfl, ho0, ho1, hb⟩; refine ⟨_, rfl, ?_⟩; have n0_ := Aside0.mk (Kd.V_mono (Kd.V_told (Kd.V_told (Kd.V_old (vk HO_537000.out) hb) (Kd.R_base ho0)) (Kd.R_base ho1)) (fun _ h_ => h_.1)); have n1_ := Aside0.mk (Kd.V_mono (Kd.V_told (Kd.V_told (Kd.V_old (vk HO_537001.out) hb) (Kd.R_base ho0)) (Kd.R_base ho1)) (fun _ h_ => h_.1)); have n2_ := Aside0.mk (Kd.R_lower (Kd.R_newM (M := fun k_ => (w.heap.size ≤ k_)) ho0 (below_size (by repeat (first | (with_reducible first | exact HB.out | apply bA | apply bN | apply bD | refine bS ?_ ‹_›) | exact HB.out))) (fun k_ h_ => h_)) (below_size (by repeat (first | (with_reducible first | exact HB.out | apply bA | apply bN | apply bD | refine bS ?_ ‹_›) | exact HB.out)))); have n3_ := Aside0.mk (Kd.R_lower (Kd.R_newM (M := fun k_ => (w.heap.size ≤ k_)) ho1 (below_size (by repeat (first | (with_reducible first | exact HB.out | apply bA | apply bN | apply bD | refine bS ?_ ‹_›) | exact HB.out))) (fun k_ h_ => h_)) (below_size (by repeat (first | (with_reducible first | exact HB.out | apply bA | apply bN | apply bD | refine bS ?_ ‹_›) | exact HB.out)))); have n4_ := Aside0.mk (blk_below (bk BK536.out) hb); have n5_ := Aside0.mk (blk_below (bk BK537.out) hb); have n6_ := Aside0.mk (below_step (by repeat (first | (with_reducible first | exact HB.out | apply bA | apply bN | apply bD | refine bS ?_ ‹_›) | exact HB.out)) hb); clear HO_537000; clear HO_537001; clear BK536; clear BK537; clear HB; have HO_537000 := n0_; have HO_537001 := n1_; have HO541 := n2_; have HO544 := n3_; have BK536 := n4_; have BK537 := n5_; have HB := n6_; clear n0_ n1_ n2_ n3_ n4_ n5_ n6_; (try clear hb); (try clear hb2); (try clear hk); (try clear hi); (try clear ho0); (try clear ho1)) | ((with_reducible refine gate_dst (N := 8) rfl ?_); (try (refine gate_guard (by rfl) ?_; dsimp only)); refine box_event ?hg (N := 8) ?hd (cs := #[.slice none 0 0, .slice none 0 0]) (t := 25) ?hr ?_; (case hd => rfl); (case hg => rfl); (case hr => first | (go_simp; done) | (go_simp; rfl)); intro gb545 hg w29 hbox hb; have n0_ := Aside0.mk (Kd.V_below (Kd.V_elderB (vk HO_537000.out) gb545 (Nat.le_of_eq hg.symm)) hb); have n1_ := Aside0.mk (Kd.V_below (Kd.V_elderB (vk HO_537001.out) gb545 (Nat.le_of_eq hg.symm)) hb); have n2_ := Aside0.mk (Kd.R_below (rk HO541.out) hb); have n3_ := Aside0.mk (Kd.R_below (rk HO544.out) hb); have n4_ := Aside0.mk (blk_below (bk BK536.out) hb); have n5_ := Aside0.mk (blk_below (bk BK537.out) hb); have n6_ := Aside0.mk (below_step (by repeat (first | (with_reducible first | exact HB.out | apply bA | apply bN | apply bD | refine bS ?_ ‹_›) | exact HB.out)) hb); have n7_ := Aside0.mk (hbox); have n8_ := Aside0.mk ((by rw [hg]; exact (below_size (by repeat (first | (with_reducible first | exact HB.out | apply bA | apply bN | apply bD | refine bS ?_ ‹_›) | exact HB.out))) : w.heap.size ≤ gb545)); have n9_ := Aside0.mk ((by rw [hg]; exact (below_size (by repeat (first | (with_reducible first | exact HB.out | apply bA | apply bN | apply bD | refine bS ?_ ‹_›) | exact HB.out))) : w.heap.size ≤ gb545)); have n10_ := Aside0.mk ((by rw [hg]; exact Nat.ne_of_lt (blk_lt (bk BK536.out)) : gb536 ≠ gb545)); have n11_ := Aside0.mk ((by rw [hg]; exact Nat.ne_of_gt (blk_lt (bk BK536.out)) : gb545 ≠ gb536)); have n12_ := Aside0.mk ((by rw [hg]; exact Nat.ne_of_lt (blk_lt (bk BK537.out)) : gb537 ≠ gb545)); have n13_ := Aside0.mk ((by rw [hg]; exact Nat.ne_of_gt (blk_lt (bk BK537.out)) : gb545 ≠ gb537)); clear HO_537000; clear HO_537001; clear HO541; clear HO544; clear BK536; clear BK537; clear HB; have HO_537000 := n0_; have HO_537001 := n1_; have HO541 := n2_; have HO544 := n3_; have BK536 := n4_; have BK537 := n5_; have HB := n6_; have BK545 := n7_; have GW545 := n8_; have GE545 := n9_; have NB536_545 := n10_; have NB545_536 := n11_; have NB537_545 := n12_; have NB545_537 := n13_; clear n0_ n1_ n2_ n3_ n4_ n5_ n6_ n7_ n8_ n9_ n10_ n11_ n12_ n13_; clear hb hbox hg; obtain ⟨Ao30, co30, eo30⟩ := Kd.R_slice HO541.out; subst eo30; have hnb31 := NB545_536.out; have hnc31 := NB536_545.out; have hnb32 := NB545_537.out; have hnc32 := NB537_545.out; have hcz33_0 : w29.cell? ⟨gb545, 0, none⟩ = some (.slice none 0 0) := (blk_cell BK545.out 0).trans rfl; have hcz33_1 : w29.cell? ⟨gb545, 1, none⟩ = some (.slice none 0 0) := (blk_cell BK545.out 1).trans rfl; have hfz33_0 := blk_frozen BK545.out 0; have hfz33_1 := blk_frozen BK545.out 1; obtain ⟨Ao34, co34, eo34⟩ := Kd.R_slice HO544.out; subst eo34) | ((with_reducible refine gate_store (t := 25) (p := 8) rfl ?_); refine store_event (t := 25) (p := 8) (v := ?vo_w35) (w1 := ((w29.setCell ⟨gb545, 0, none⟩ (.slice Ao30 t539.length co30)).setCell ⟨gb545, 1, none⟩ (.slice Ao34 t542.length co34))) ?hg ?ho ?hn ?hr ?_; (case ho => rfl); (case hg => rfl); (case hn => rfl); (case hr => first | (go_simp; done) | (go_simp; rfl)); intro w35 hw; have n0_ : Aside0 (Kd.V (Kd.int .i64) 3 w35 w.heap.size (fun k_ => ((P0_0_ k_ ∨ P0_1_ k_) ∨ w.heap.size ≤ k_) ∧ some k_ ≠ (.slice Ao30 t539.length co30 : Value).ownBlock ∧ some k_ ≠ (.slice Ao34 t542.length co34 : Value).ownBlock ∧ k_ ≠ gb536 ∧ k_ ≠ gb537 ∧ k_ ≠ gb545) (.slice (some ad538) l0_0.length c0_0) l0_0) := ⟨(by rw [hw]; exact (by (with_reducible repeat (first | apply Kd.V_alloc | apply Kd.V_drewN | apply Kd.V_drew)); exact Kd.V_mono (Kd.V_far (p := ⟨gb545, 1, none⟩) (Kd.V_far (p := ⟨gb545, 0, none⟩) (Kd.V_mono HO_537000.out (fun k_ hk => (⟨hk, hk.2⟩ : _ ∧ k_ ≠ gb545))) (fun _ hk => hk.2) (.slice Ao30 t539.length co30)) (fun _ hk => hk.2) (.slice Ao34 t542.length co34)) (fun _ hk => ⟨hk.1.1.1.1.1, ⟨hk.1.1.1.2, ⟨hk.1.1.2, ⟨hk.1.1.1.1.2.1, ⟨hk.1.1.1.1.2.2, hk.1.2⟩⟩⟩⟩⟩)))⟩; have n1_ : Aside0 (Kd.V k29 29 w35 w.heap.size (fun k_ => ((P0_0_ k_ ∨ P0_1_ k_) ∨ w.heap.size ≤ k_) ∧ some k_ ≠ (.slice Ao30 t539.length co30 : Value).ownBlock ∧ some k_ ≠ (.slice Ao34 t542.length co34 : Value).ownBlock ∧ k_ ≠ gb536 ∧ k_ ≠ gb537 ∧ k_ ≠ gb545) (.slice A0_1 l0_1.length c0_1) l0_1) := ⟨(by rw [hw]; exact (by (with_reducible repeat (first | apply Kd.V_alloc | apply Kd.V_drewN | apply Kd.V_drew)); exact Kd.V_mono (Kd.V_far (p := ⟨gb545, 1, none⟩) (Kd.V_far (p := ⟨gb545, 0, none⟩) (Kd.V_mono HO_537001.out (fun k_ hk => (⟨hk, hk.2⟩ : _ ∧ k_ ≠ gb545))) (fun _ hk => hk.2) (.slice Ao30 t539.length co30)) (fun _ hk => hk.2) (.slice Ao34 t542.length co34)) (fun _ hk => ⟨hk.1.1.1.1.1, ⟨hk.1.1.1.2, ⟨hk.1.1.2, ⟨hk.1.1.1.1.2.1, ⟨hk.1.1.1.1.2.2, hk.1.2⟩⟩⟩⟩⟩)))⟩; have n2_ : Aside0 (Kd.R (Kd.int .i64) 3 w35 w.heap.size (fun k_ => (w.heap.size ≤ k_)) (.slice Ao30 t539.length co30) t539) := ⟨(by rw [hw]; exact (by (with_reducible repeat (first | apply Kd.R_alloc | apply Kd.R_drewN | apply Kd.R_drew)); exact Kd.R_mono (Kd.R_far (p := ⟨gb545, 1, none⟩) (Kd.R_far (p := ⟨gb545, 0, none⟩) (Kd.R_types HO541.out BK545.out (by decide)) (fun _ hk => hk.2) (.slice Ao30 t539.length co30)) (fun _ hk => hk.2) (.slice Ao34 t542.length co34)) (fun _ hk => hk.1.1)))⟩; have n3_ : Aside0 (Kd.R k29 29 w35 w.heap.size (fun k_ => (w.heap.size ≤ k_)) (.slice Ao34 t542.length co34) t542) := ⟨(by rw [hw]; exact (by (with_reducible repeat (first | apply Kd.R_alloc | apply Kd.R_drewN | apply Kd.R_drew)); exact Kd.R_mono (Kd.R_far (p := ⟨gb545, 1, none⟩) (Kd.R_far (p := ⟨gb545, 0, none⟩) (Kd.R_types HO544.out BK545.out (by decide)) (fun _ hk => hk.2) (.slice Ao30 t539.length co30)) (fun _ hk => hk.2) (.slice Ao34 t542.length co34)) (fun _ hk => hk.1.1)))⟩; have n4_ : Aside0 (w35.heap[gb536]? = some (.cells #[.slice (some ad538) l0_0.length c0_0, .slice A0_1 l0_1.length c0_1] 25 (0, 0))) := ⟨(by rw [hw]; exact (by (with_reducible repeat (first | refine blk_drewN ?_ _ | refine blk_drew ?_ | refine blk_alloc ?_ _)); refine blk_far ?_ NB536_545.out _; (with_reducible repeat (first | refine blk_drewN ?_ _ | refine blk_drew ?_ | refine blk_alloc ?_ _)); refine blk_far ?_ NB536_545.out _; (with_reducible repeat (first | refine blk_drewN ?_ _ | refine blk_drew ?_ | refine blk_alloc ?_ _)); exact BK536.out))⟩; have n5_ : Aside0 (w35.heap[gb537]? = some (.cells #[.slice none 0 0, .slice none 0 0] 25 (0, 0))) := ⟨(by rw [hw]; exact (by (with_reducible repeat (first | refine blk_drewN ?_ _ | refine blk_drew ?_ | refine blk_alloc ?_ _)); refine blk_far ?_ NB537_545.out _; (with_reducible repeat (first | refine blk_drewN ?_ _ | refine blk_drew ?_ | refine blk_alloc ?_ _)); refine blk_far ?_ NB537_545.out _; (with_reducible repeat (first | refine blk_drewN ?_ _ | refine blk_drew ?_ | refine blk_alloc ?_ _)); exact BK537.out))⟩; have n6_ : Aside0 (w35.heap[gb545]? = some (.cells #[.slice Ao30 t539.length co30, .slice Ao34 t542.length co34] 25 (0, 0))) := ⟨(by rw [hw]; exact (by (with_reducible repeat (first | refine blk_drewN ?_ _ | refine blk_drew ?_ | refine blk_alloc ?_ _)); refine blk_put (cs := #[.slice Ao30 t539.length co30, .slice none 0 0]) ?_ 1 _ rfl; (with_reducible repeat (first | refine blk_drewN ?_ _ | refine blk_drew ?_ | refine blk_alloc ?_ _)); refine blk_put (cs := #[.slice none 0 0, .slice none 0 0]) ?_ 0 _ rfl; (with_reducible repeat (first | refine blk_drewN ?_ _ | refine blk_drew ?_ | refine blk_alloc ?_ _)); exact BK545.out))⟩; have n7_ : Aside0 (Below w.heap.size w w35) := ⟨(by rw [hw]; exact (by repeat (first | (with_reducible first | exact HB.out | apply bA | apply bN | apply bD | refine bS ?_ ‹_›) | exact HB.out)))⟩; clear hw; clear HO_537000; clear HO_537001; clear HO541; clear HO544; clear BK536; clear BK537; clear BK545; clear HB; have HO_537000 := n0_; have HO_537001 := n1_; have HO541 := n2_; have HO544 := n3_; have BK536 := n4_; have BK537 := n5_; have BK545 := n6_; have HB := n7_; clear n0_ n1_ n2_ n3_ n4_ n5_ n6_ n7_; have hcz36_0 : w35.cell? ⟨gb545, 0, none⟩ = some (.slice Ao30 t539.length co30) := (blk_cell BK545.out 0).trans rfl; have hcz36_1 : w35.cell? ⟨gb545, 1, none⟩ = some (.slice Ao34 t542.length co34) := (blk_cell BK545.out 1).trans rfl; have hfz36_0 := blk_frozen BK545.out 0; have hfz36_1 := blk_frozen BK545.out 1; have p25 : 0 ≤ (a1 : Int) := of_decide_eq_true (by first | (with_reducible assumption) | assumption); have q25 : (a1 : Int) < ((t539.length : Int) : Int) := of_decide_eq_true (by first | (with_reducible assumption) | assumption); obtain ⟨go25, co25, eo25, gb25, gl25, cl25, HG25⟩ := Kd.R_form HO541.out (by omega); (first | cases eo25 | (injection eo25 with ea_ en_ ec_; (first | subst ea_ | (injection ea_ with ea_; subst ea_)); subst ec_; clear en_)); have GB25 := Aside0.mk gb25; have GG25 := Aside0.mk HG25; clear gb25 gl25 HG25; obtain ⟨hx25_0, hf25_0⟩ := Kd.R_celln 0 HO541.out (a1 : Int) p25 q25; replace p25 := eq_true p25; replace q25 := eq_true q25; obtain ⟨hy37_, hz37_⟩ := Kd.R_celln 0 HO541.out (a1 : Int) (of_decide_eq_true (by first | (with_reducible assumption) | assumption)) (of_decide_eq_true (by first | (with_reducible assumption) | assumption)); have HP37 := Kd.R_putg HO541.out (a1 : Int) a2) | ((with_reducible refine gate_store (t := 3) (p := 40) rfl ?_); refine store_event (t := 3) (p := 40) (v := ?vo_w38) (w1 := (w35.setCell ⟨go25, (a1 : Int).toNat, none⟩ (.int .i64 a2))) ?hg ?ho ?hn ?hr ?_; (case ho => rfl); (case hg => rfl); (case hn => rfl); (case hr => first | (go_simp; done) | (go_simp; rfl)); intro w38 hw; have hg : w35.grownBy w38 (some go25) := (by rw [hw]; exact HP37.2); have hp_ : Kd.R (Kd.int .i64) 3 w38 w.heap.size (fun k_ => (w.heap.size ≤ k_)) (.slice (some ⟨go25, 0, none⟩) t539.length co30) y546 := (by rw [hw, Ny546.out]; exact HP37.1); clear HP37; have n0_ := Aside0.mk (Kd.V_afterv (v := (.slice (some ⟨go25, 0, none⟩) t539.length co30)) (v1 := (.slice (some ⟨go25, 0, none⟩) t539.length co30)) (ok := (fun k_ => ((P0_0_ k_ ∨ P0_1_ k_) ∨ w.heap.size ≤ k_) ∧ some k_ ≠ (.slice Ao34 t542.length co34 : Value).ownBlock ∧ k_ ≠ gb536 ∧ k_ ≠ gb537 ∧ k_ ≠ gb545)) (by (with_reducible repeat (first | apply Kd.V_alloc | apply Kd.V_drewN | apply Kd.V_drew)); exact Kd.V_mono HO_537000.out (fun _ hk => ⟨⟨hk.1, ⟨hk.2.2.1, ⟨hk.2.2.2.1, ⟨hk.2.2.2.2.1, hk.2.2.2.2.2⟩⟩⟩⟩, hk.2.1⟩)) hg (.inl rfl)); have n1_ := Aside0.mk (Kd.V_afterv (v := (.slice (some ⟨go25, 0, none⟩) t539.length co30)) (v1 := (.slice (some ⟨go25, 0, none⟩) t539.length co30)) (ok := (fun k_ => ((P0_0_ k_ ∨ P0_1_ k_) ∨ w.heap.size ≤ k_) ∧ some k_ ≠ (.slice Ao34 t542.length co34 : Value).ownBlock ∧ k_ ≠ gb536 ∧ k_ ≠ gb537 ∧ k_ ≠ gb545)) (by (with_reducible repeat (first | apply Kd.V_alloc | apply Kd.V_drewN | apply Kd.V_drew)); exact Kd.V_mono HO_537001.out (fun _ hk => ⟨⟨hk.1, ⟨hk.2.2.1, ⟨hk.2.2.2.1, ⟨hk.2.2.2.2.1, hk.2.2.2.2.2⟩⟩⟩⟩, hk.2.1⟩)) hg (.inl rfl)); have n2_ := Aside0.mk (blk_grown (bk BK536.out) hg (Kd.R_ne HO541.out BK536.out (by decide))); have n3_ := Aside0.mk (blk_grown (bk BK537.out) hg (Kd.R_ne HO541.out BK537.out (by decide))); have n4_ := Aside0.mk (hp_); have n5_ := Aside0.mk (Kd.R_over' (v := (.slice (some ⟨go25, 0, none⟩) t539.length co30)) (rk HO544.out) (Kd.R_typed HO541.out) (by decide) hg); have n6_ := Aside0.mk (blk_grown (bk BK545.out) hg (Kd.R_ne HO541.out BK545.out (by decide))); have n7_ := Aside0.mk ((by rw [hw]; exact below_set (HB.out) GB25.out : Below w.heap.size w w38)); clear HO_537000; clear HO_537001; clear BK536; clear BK537; clear HO541; clear HO544; clear BK545; clear HB; have HO_537000 := n0_; have HO_537001 := n1_; have BK536 := n2_; have BK537 := n3_; have HO541 := n4_; have HO544 := n5_; have BK545 := n6_; have HB := n7_; clear n0_ n1_ n2_ n3_ n4_ n5_ n6_ n7_; clear hg hw hp_; have hcz39_0 : w38.cell? ⟨gb545, 0, none⟩ = some (.slice (some ⟨go25, 0, none⟩) t539.length co30) := (blk_cell BK545.out 0).trans rfl; have hcz39_1 : w38.cell? ⟨gb545, 1, none⟩ = some (.slice Ao34 t542.length co34) := (blk_cell BK545.out 1).trans rfl; have hfz39_0 := blk_frozen BK545.out 0; have hfz39_1 := blk_frozen BK545.out 1; have hcz40_0 : w38.cell? ⟨gb537, 0, none⟩ = some (.slice none 0 0) := (blk_cell BK537.out 0).trans rfl; have hcz40_1 : w38.cell? ⟨gb537, 1, none⟩ = some (.slice none 0 0) := (blk_cell BK537.out 1).trans rfl; have hfz40_0 := blk_frozen BK537.out 0; have hfz40_1 := blk_frozen BK537.out 1))
                refine bodyPost_ret (results_ct rfl _ _ gb537 25 #[.slice (some ⟨go25, 0, none⟩) t539.length co30, .slice Ao34 t542.length co34] (0, 0) _ rfl (by (with_reducible repeat (first | refine blk_drewN ?_ _ | refine blk_drew ?_ | refine blk_alloc ?_ _)); refine blk_put (cs := #[.slice (some ⟨go25, 0, none⟩) t539.length co30, .slice none 0 0]) ?_ 1 _ rfl; (with_reducible repeat (first | refine blk_drewN ?_ _ | refine blk_drew ?_ | refine blk_alloc ?_ _)); refine blk_put (cs := #[.slice none 0 0, .slice none 0 0]) ?_ 0 _ rfl; (with_reducible repeat (first | refine blk_drewN ?_ _ | refine blk_drew ?_ | refine blk_alloc ?_ _)); exact BK537.out) Try.underlying25 rfl (by kernel_rfl)) rfl ?_
                exact ⟨_, _, by first | rfl | (simp [errW_none, errW_some] <;> rfl) | (simp [*, errW_none, errW_some] <;> rfl), Kd.V_mono (Kd.R_V (by (with_reducible repeat (first | apply Kd.R_alloc | apply Kd.R_drewN | apply Kd.R_drew)); exact Kd.R_mono (Kd.R_far (p := ⟨gb537, 1, none⟩) (Kd.R_far (p := ⟨gb537, 0, none⟩) (Kd.R_types HO541.out BK537.out (by decide)) (fun _ hk => hk.2) (.slice (some ⟨go25, 0, none⟩) t539.length co30)) (fun _ hk => hk.2) (.slice Ao34 t542.length co34)) (fun _ hk => hk.1))) (fun k_ hk => by first | exact ⟨(.inr (hk.1)), hk.2⟩ | exact (.inr (hk))), Kd.V_mono (Kd.R_V (by (with_reducible repeat (first | apply Kd.R_alloc | apply Kd.R_drewN | apply Kd.R_drew)); exact Kd.R_mono (Kd.R_far (p := ⟨gb537, 1, none⟩) (Kd.R_far (p := ⟨gb537, 0, none⟩) (Kd.R_types HO544.out BK537.out (by decide)) (fun _ hk => hk.2) (.slice (some ⟨go25, 0, none⟩) t539.length co30)) (fun _ hk => hk.2) (.slice Ao34 t542.length co34)) (fun _ hk => hk.1))) (fun k_ hk => by first | exact ⟨(.inr (hk.1)), hk.2⟩ | exact (.inr (hk))), by repeat (first | (with_reducible first | exact HB.out | apply below_alloc | apply pw_below_drewN | apply below_drew1 | refine below_set ?_ GE536.out | refine below_set ?_ GE537.out | refine below_set ?_ GE545.out) | exact HB.out)⟩
              · rw [if_neg c24] at H
                exact absurd H (by simp)
            · rw [if_neg c22] at H
              have c22b0 : ((rd l0_0 a1) == 0) = false := beq_eq_false_iff_ne.mpr c22
              have c22b1 : ((rd l0_0 a1) != 0) = true := bne_iff_ne.mpr c22
              simp only [Option.some.injEq, Prod.mk.injEq] at H
              obtain ⟨rfl, rfl, rfl⟩ := H
              have hnb41 := NB536_537.out
              have hnc41 := NB537_536.out
              have hcz42_0 : wc.cell? ⟨gb536, 0, none⟩ = some (.slice A0_0 l0_0.length c0_0) := (blk_cell BK536.out 0).trans rfl
              have hcz42_1 : wc.cell? ⟨gb536, 1, none⟩ = some (.slice A0_1 l0_1.length c0_1) := (blk_cell BK536.out 1).trans rfl
              have hfz42_0 := blk_frozen BK536.out 0
              have hfz42_1 := blk_frozen BK536.out 1
              have p538 : 0 ≤ (a1 : Int) := of_decide_eq_true (by first | (with_reducible assumption) | assumption)
              have q538 : a1 < (l0_0.length : Int) := of_decide_eq_true (by first | (with_reducible assumption) | assumption)
              obtain ⟨ad538, e538, hx538_0⟩ := Kd.at_int (Kd.V_reads' HO_537000.out).2.2 a1 p538 q538
              cases e538
              replace p538 := eq_true p538
              replace q538 := eq_true q538
              have hcz43_0 : wc.cell? ⟨gb537, 0, none⟩ = some (.slice none 0 0) := (blk_cell BK537.out 0).trans rfl
              have hcz43_1 : wc.cell? ⟨gb537, 1, none⟩ = some (.slice none 0 0) := (blk_cell BK537.out 1).trans rfl
              have hfz43_0 := blk_frozen BK537.out 0
              have hfz43_1 := blk_frozen BK537.out 1
              go_wp2
              refine bodyPost_ret (results_ct rfl _ _ gb537 25 #[.slice (some ad538) l0_0.length c0_0, .slice A0_1 l0_1.length c0_1] (0, 0) _ rfl (by (with_reducible repeat (first | refine blk_drewN ?_ _ | refine blk_drew ?_ | refine blk_alloc ?_ _)); refine blk_put (cs := #[.slice (some ad538) l0_0.length c0_0, .slice none 0 0]) ?_ 1 _ rfl; (with_reducible repeat (first | refine blk_drewN ?_ _ | refine blk_drew ?_ | refine blk_alloc ?_ _)); refine blk_put (cs := #[.slice none 0 0, .slice none 0 0]) ?_ 0 _ rfl; (with_reducible repeat (first | refine blk_drewN ?_ _ | refine blk_drew ?_ | refine blk_alloc ?_ _)); exact BK537.out) Try.underlying25 rfl (by kernel_rfl)) rfl ?_
              exact ⟨_, _, by first | rfl | (simp [errW_none, errW_some] <;> rfl) | (simp [*, errW_none, errW_some] <;> rfl), by (with_reducible repeat (first | apply Kd.V_alloc | apply Kd.V_drewN | apply Kd.V_drew)); exact Kd.V_mono (Kd.V_far (p := ⟨gb537, 1, none⟩) (Kd.V_far (p := ⟨gb537, 0, none⟩) (Kd.V_mono HO_537000.out (fun k_ hk => (⟨hk, hk.2.2⟩ : _ ∧ k_ ≠ gb537))) (fun _ hk => hk.2) (.slice (some ad538) l0_0.length c0_0)) (fun _ hk => hk.2) (.slice A0_1 l0_1.length c0_1)) (fun _ hk => hk.1.1), by (with_reducible repeat (first | apply Kd.V_alloc | apply Kd.V_drewN | apply Kd.V_drew)); exact Kd.V_mono (Kd.V_far (p := ⟨gb537, 1, none⟩) (Kd.V_far (p := ⟨gb537, 0, none⟩) (Kd.V_mono HO_537001.out (fun k_ hk => (⟨hk, hk.2.2⟩ : _ ∧ k_ ≠ gb537))) (fun _ hk => hk.2) (.slice (some ad538) l0_0.length c0_0)) (fun _ hk => hk.2) (.slice A0_1 l0_1.length c0_1)) (fun _ hk => hk.1.1), by repeat (first | (with_reducible first | exact HB.out | apply below_alloc | apply pw_below_drewN | apply below_drew1 | refine below_set ?_ GE536.out | refine below_set ?_ GE537.out) | exact HB.out)⟩
          · rw [if_neg c21] at H
            exact absurd H (by simp)
        · rw [if_neg c20] at H
          exact absurd H (by simp)

end Go.Proofs.Ytgiofigjnchfeaa.Q
