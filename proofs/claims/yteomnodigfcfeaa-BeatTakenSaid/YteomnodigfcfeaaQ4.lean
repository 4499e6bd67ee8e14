/- This text was written by a program of this session: what each Go function computes, as a Lean function, and that its call does so. -/
import Derived.Test.YteomnodigfcfeaaQ0
import Derived.Test.YteomnodigfcfeaaQ10
import Derived.Test.YteomnodigfcfeaaH10
import Derived.Test.YteomnodigfcfeaaH11
namespace Go.Proofs.Yteomnodigfcfeaa.Q
open Go.RowKit Go.Proofs.YteomnodigfcfeaaW.PrintWords Go.Proofs.YteomnodigfcfeaaW.PrintLast Go.Proofs.YteomnodigfcfeaaW.PrintMore
attribute [local go_sem] max2_int min2_int max_two min_two max_three min_three max_four min_four   -- for this text's walks alone
set_option linter.unusedVariables false
set_option linter.unusedSimpArgs false

/-! ### interchangelaw12_BeatTaken: function 4 -/
mutual
def interchangelaw12_BeatTaken.l0 : Nat → List (S24) → Int → Bool → List (S24) → List Int → Int → Int → Option (Bool)
  | 0, _, _, _, _, _, _, _ => none
  | k + 1, x0, x1, x5, x6, x7, x8, x9 => if x9 < (x0.length : Int) then (if 0 ≤ x9 then (if ((rd_T24 x0 x9).f0) ≤ x1 then (interchangelaw12_BeatTaken.l0 k x0 x1 x5 x6 x7 (wrap64 (x8 + 1)) (wrap64 (x9 + 1))) else (interchangelaw12_BeatTaken.l0 k x0 x1 x5 x6 x7 x8 (wrap64 (x9 + 1)))) else (none)) else (interchangelaw12_BeatTaken.l1 k x0 x1 x5 x6 x7 x8 0)
def interchangelaw12_BeatTaken.l1 : Nat → List (S24) → Int → Bool → List (S24) → List Int → Int → Int → Option (Bool)
  | 0, _, _, _, _, _, _, _ => none
  | k + 1, x0, x1, x5, x6, x7, x8, x10 => if x10 < (x6.length : Int) then (if 0 ≤ x10 then (if ((rd_T24 x6 x10).f0) ≤ x1 then (some false) else (if x10 > 0 then (if 0 ≤ (wrap64 (x10 - 1)) then (if (wrap64 (x10 - 1)) < (x6.length : Int) then (if ((rd_T24 x6 (wrap64 (x10 - 1))).f0) > ((rd_T24 x6 x10).f0) then (some false) else (if ((rd_T24 x6 (wrap64 (x10 - 1))).f0) = ((rd_T24 x6 x10).f0) then (if ((rd_T24 x6 (wrap64 (x10 - 1))).f1) > ((rd_T24 x6 x10).f1) then (some false) else (interchangelaw12_BeatTaken.l1 k x0 x1 x5 x6 x7 x8 (wrap64 (x10 + 1)))) else (interchangelaw12_BeatTaken.l1 k x0 x1 x5 x6 x7 x8 (wrap64 (x10 + 1))))) else (none)) else (none)) else (interchangelaw12_BeatTaken.l1 k x0 x1 x5 x6 x7 x8 (wrap64 (x10 + 1))))) else (none)) else (if x5 = true then (if (x7.length : Int) = x8 then (some ((x6.length : Int) == (wrap64 ((x0.length : Int) - x8)))) else (some false)) else (some false))
end
def interchangelaw12_BeatTaken.f (k : Nat) (l0 : List (S24)) (a1 : Int) : Option (Bool) := (interchangelaw12_shown.f).bind fun t246 => (if (l0.length : Int) > 200 then (some true) else ((beat_Take.f l0 a1).bind fun bt247 => (interchangelaw12_BeatTaken.l0 k l0 a1 true bt247.1 bt247.2 0 0)))
theorem interchangelaw12_BeatTaken.mono_l : ∀ k, (∀ y0 y1 y2 y3 y4 y5 y6, LeO (interchangelaw12_BeatTaken.l0 k y0 y1 y2 y3 y4 y5 y6) (interchangelaw12_BeatTaken.l0 (k + 1) y0 y1 y2 y3 y4 y5 y6)) ∧ (∀ y0 y1 y2 y3 y4 y5 y6, LeO (interchangelaw12_BeatTaken.l1 k y0 y1 y2 y3 y4 y5 y6) (interchangelaw12_BeatTaken.l1 (k + 1) y0 y1 y2 y3 y4 y5 y6))
  | 0 => ⟨fun _ _ _ _ _ _ _ r h => by simp [interchangelaw12_BeatTaken.l0] at h, fun _ _ _ _ _ _ _ r h => by simp [interchangelaw12_BeatTaken.l1] at h⟩
  | k + 1 => by
    obtain ⟨ih0, ih1⟩ := interchangelaw12_BeatTaken.mono_l k
    refine ⟨?_, ?_⟩
    · intro y0 y1 y2 y3 y4 y5 y6
      unfold interchangelaw12_BeatTaken.l0
      repeat' first
      | (with_reducible exact ih0 _ _ _ _ _ _ _)
      | (with_reducible exact ih1 _ _ _ _ _ _ _)
      | (with_reducible exact LeO.refl _)
      | (with_reducible exact LeO.none _)
      | (with_reducible refine LeO.ite ?_ ?_)
      | (with_reducible refine LeO.bind ?_ (fun _ => ?_))
      | exact ih0 _ _ _ _ _ _ _
      | exact ih1 _ _ _ _ _ _ _
      | exact LeO.none _
      | refine LeO.ite ?_ ?_
      | refine LeO.bind ?_ (fun _ => ?_)
    · intro y0 y1 y2 y3 y4 y5 y6
      unfold interchangelaw12_BeatTaken.l1
      repeat' first
      | (with_reducible exact ih0 _ _ _ _ _ _ _)
      | (with_reducible exact ih1 _ _ _ _ _ _ _)
      | (with_reducible exact LeO.refl _)
      | (with_reducible exact LeO.none _)
      | (with_reducible refine LeO.ite ?_ ?_)
      | (with_reducible refine LeO.bind ?_ (fun _ => ?_))
      | exact ih0 _ _ _ _ _ _ _
      | exact ih1 _ _ _ _ _ _ _
      | exact LeO.none _
      | refine LeO.ite ?_ ?_
      | refine LeO.bind ?_ (fun _ => ?_)
theorem interchangelaw12_BeatTaken.mono : ∀ a0 a1 k, LeO (interchangelaw12_BeatTaken.f k a0 a1) (interchangelaw12_BeatTaken.f (k + 1) a0 a1) := by
  intro a0 a1 k
  obtain ⟨ih0, ih1⟩ := interchangelaw12_BeatTaken.mono_l k
  unfold interchangelaw12_BeatTaken.f
  repeat' first
      | (with_reducible exact ih0 _ _ _ _ _ _ _)
      | (with_reducible exact ih1 _ _ _ _ _ _ _)
      | (with_reducible exact LeO.refl _)
      | (with_reducible exact LeO.none _)
      | (with_reducible refine LeO.ite ?_ ?_)
      | (with_reducible refine LeO.bind ?_ (fun _ => ?_))
      | exact ih0 _ _ _ _ _ _ _
      | exact ih1 _ _ _ _ _ _ _
      | exact LeO.none _
      | refine LeO.ite ?_ ?_
      | refine LeO.bind ?_ (fun _ => ?_)
set_option maxHeartbeats 8000000 in
set_option maxRecDepth 100000 in
theorem interchangelaw12_BeatTaken.calls (k : Nat) (A0 : Option Addr) (c0 : Nat) (l0 : List (S24)) (a1 : Int) (r : Bool) (w : World) (hr0 : Kd.C k24 w A0 l0.length l0) (hc0 : l0.length ≤ c0) (hT_ : Aside0 (r = true)) (h : interchangelaw12_BeatTaken.f k l0 a1 = some r) :
    Calls Try.prog 4 #[.slice A0 l0.length c0, .int .i64 a1] w fun e w' => e = .returned (.bool r) ∧ Below w.heap.size w w' := by
  have HR0 := Aside0.mk hr0
  have HC0 := Aside0.mk hc0
  clear hr0 hc0
  have HB := Aside0.mk (Below.refl w.heap.size w)
  have H : ((interchangelaw12_shown.f).bind fun t246 => (if (l0.length : Int) > 200 then (some true) else ((beat_Take.f l0 a1).bind fun bt247 => (interchangelaw12_BeatTaken.l0 k l0 a1 true bt247.1 bt247.2 0 0)))) = some r := h
  clear h
  replace H := Option.bind_eq_some_iff.mp H
  obtain ⟨t246, A30, H⟩ := H
  replace H : (if (l0.length : Int) > 200 then (some true) else ((beat_Take.f l0 a1).bind fun bt247 => (interchangelaw12_BeatTaken.l0 k l0 a1 true bt247.1 bt247.2 0 0))) = some r := H
  obtain rfl : true = t246 := Option.some.inj (interchangelaw12_shown_true.symm.trans A30)
  have A3 := Aside0.mk A30
  clear A30
  by_cases c4 : (l0.length : Int) > 200
  · rw [if_pos c4] at H
    have c4b0 : decide (200 < (l0.length : Int)) = true := decide_eq_true c4
    have c4b1 : decide (200 < l0.length) = true := decide_eq_true (by omega)
    clear c4
    obtain rfl := Option.some.inj H
    go_enter Try.func4, Try.ntmps4
    go_wp2_with (first | (go_at_call 10; (with_reducible refine (interchangelaw12_shown.calls true _ ⟨rfl⟩ A3.out).mono ?_); rintro e w5 ⟨rfl, hb⟩; have n0_ := Aside0.mk (below_step (by repeat (first | (with_reducible first | exact HB.out | apply below_alloc | apply pw_below_drewN | apply below_drew1) | exact HB.out)) hb); clear HB; have HB := n0_; clear n0_; (try clear hb); (try clear hb2); (try clear hk); (try clear hi)))
    repeat (go_quiet (first | (go_at_call 10; (with_reducible refine (interchangelaw12_shown.calls true _ ⟨rfl⟩ A3.out).mono ?_); rintro e w5 ⟨rfl, hb⟩; have n0_ := Aside0.mk (below_step (by repeat (first | (with_reducible first | exact HB.out | apply below_alloc | apply pw_below_drewN | apply below_drew1) | exact HB.out)) hb); clear HB; have HB := n0_; clear n0_; (try clear hb); (try clear hb2); (try clear hk); (try clear hi))); try go_wp2_with (first | (go_at_call 10; (with_reducible refine (interchangelaw12_shown.calls true _ ⟨rfl⟩ A3.out).mono ?_); rintro e w5 ⟨rfl, hb⟩; have n0_ := Aside0.mk (below_step (by repeat (first | (with_reducible first | exact HB.out | apply below_alloc | apply pw_below_drewN | apply below_drew1) | exact HB.out)) hb); clear HB; have HB := n0_; clear n0_; (try clear hb); (try clear hb2); (try clear hk); (try clear hi))))
    go_ret
    exact ⟨by first | rfl | (simp [errW_none, errW_some] <;> rfl) | (simp [*, errW_none, errW_some] <;> rfl) | (exfalso; simp only [decide_eq_true_eq, decide_eq_false_iff_not, beq_iff_eq, bne_iff_ne, ne_eq, beq_eq_false_iff_ne, bne_eq_false_iff_eq] at *; omega), by repeat (first | (with_reducible first | exact HB.out | apply below_alloc | apply pw_below_drewN | apply below_drew1) | exact HB.out)⟩
  · rw [if_neg c4] at H
    have c4b0 : decide (200 < (l0.length : Int)) = false := decide_eq_false c4
    have c4b1 : decide (200 < l0.length) = false := decide_eq_false (by omega)
    clear c4
    replace H := Option.bind_eq_some_iff.mp H
    obtain ⟨⟨t247, t248⟩, A60, H⟩ := H
    replace H : (interchangelaw12_BeatTaken.l0 k l0 a1 true t247 t248 0 0) = some r := H
    have A6 := Aside0.mk A60
    clear A60
    have H' := Aside0.mk H
    clear H
    go_enter Try.func4, Try.ntmps4
    go_wp2_with (first | (go_at_call 10; (with_reducible refine (interchangelaw12_shown.calls true _ ⟨rfl⟩ A3.out).mono ?_); rintro e w7 ⟨rfl, hb⟩; have n0_ := Aside0.mk (below_step (by repeat (first | (with_reducible first | exact HB.out | apply below_alloc | apply pw_below_drewN | apply below_drew1) | exact HB.out)) hb); clear HB; have HB := n0_; clear n0_; (try clear hb); (try clear hb2); (try clear hk); (try clear hi)) | (go_at_call 11; (with_reducible refine (beat_Take.calls _ _ l0 a1 t247 t248 _ ?side1 ?side2 A6.out).mono ?_); (case side1 => repeat (first | exact (Kd.C_below HR0.out HB.out) | (with_reducible refine Kd.C_alloc ?_ _) | (with_reducible refine Kd.C_drewN ?_ _) | (with_reducible refine Kd.C_drew ?_))); (case side2 => exact HC0.out); rintro e w8 ⟨v249, v251, rfl, ho0, ho1, hb⟩; have n0_ := Aside0.mk (Kd.R_lower ho0 (below_size (by repeat (first | (with_reducible first | exact HB.out | apply below_alloc | apply pw_below_drewN | apply below_drew1) | exact HB.out)))); have n1_ := Aside0.mk (Kd.R_lower ho1 (below_size (by repeat (first | (with_reducible first | exact HB.out | apply below_alloc | apply pw_below_drewN | apply below_drew1) | exact HB.out)))); have n2_ := Aside0.mk (below_step (by repeat (first | (with_reducible first | exact HB.out | apply below_alloc | apply pw_below_drewN | apply below_drew1) | exact HB.out)) hb); clear HB; have HO250 := n0_; have HO252 := n1_; have HB := n2_; clear n0_ n1_ n2_; (try clear hb); (try clear hb2); (try clear hk); (try clear hi); (try clear ho0); (try clear ho1)))
    repeat (go_quiet (first | (go_at_call 10; (with_reducible refine (interchangelaw12_shown.calls true _ ⟨rfl⟩ A3.out).mono ?_); rintro e w7 ⟨rfl, hb⟩; have n0_ := Aside0.mk (below_step (by repeat (first | (with_reducible first | exact HB.out | apply below_alloc | apply pw_below_drewN | apply below_drew1) | exact HB.out)) hb); clear HB; have HB := n0_; clear n0_; (try clear hb); (try clear hb2); (try clear hk); (try clear hi)) | (go_at_call 11; (with_reducible refine (beat_Take.calls _ _ l0 a1 t247 t248 _ ?side1 ?side2 A6.out).mono ?_); (case side1 => repeat (first | exact (Kd.C_below HR0.out HB.out) | (with_reducible refine Kd.C_alloc ?_ _) | (with_reducible refine Kd.C_drewN ?_ _) | (with_reducible refine Kd.C_drew ?_))); (case side2 => exact HC0.out); rintro e w8 ⟨v249, v251, rfl, ho0, ho1, hb⟩; have n0_ := Aside0.mk (Kd.R_lower ho0 (below_size (by repeat (first | (with_reducible first | exact HB.out | apply below_alloc | apply pw_below_drewN | apply below_drew1) | exact HB.out)))); have n1_ := Aside0.mk (Kd.R_lower ho1 (below_size (by repeat (first | (with_reducible first | exact HB.out | apply below_alloc | apply pw_below_drewN | apply below_drew1) | exact HB.out)))); have n2_ := Aside0.mk (below_step (by repeat (first | (with_reducible first | exact HB.out | apply below_alloc | apply pw_below_drewN | apply below_drew1) | exact HB.out)) hb); clear HB; have HO250 := n0_; have HO252 := n1_; have HB := n2_; clear n0_ n1_ n2_; (try clear hb); (try clear hb2); (try clear hk); (try clear hi); (try clear ho0); (try clear ho1))); try go_wp2_with (first | (go_at_call 10; (with_reducible refine (interchangelaw12_shown.calls true _ ⟨rfl⟩ A3.out).mono ?_); rintro e w7 ⟨rfl, hb⟩; have n0_ := Aside0.mk (below_step (by repeat (first | (with_reducible first | exact HB.out | apply below_alloc | apply pw_below_drewN | apply below_drew1) | exact HB.out)) hb); clear HB; have HB := n0_; clear n0_; (try clear hb); (try clear hb2); (try clear hk); (try clear hi)) | (go_at_call 11; (with_reducible refine (beat_Take.calls _ _ l0 a1 t247 t248 _ ?side1 ?side2 A6.out).mono ?_); (case side1 => repeat (first | exact (Kd.C_below HR0.out HB.out) | (with_reducible refine Kd.C_alloc ?_ _) | (with_reducible refine Kd.C_drewN ?_ _) | (with_reducible refine Kd.C_drew ?_))); (case side2 => exact HC0.out); rintro e w8 ⟨v249, v251, rfl, ho0, ho1, hb⟩; have n0_ := Aside0.mk (Kd.R_lower ho0 (below_size (by repeat (first | (with_reducible first | exact HB.out | apply below_alloc | apply pw_below_drewN | apply below_drew1) | exact HB.out)))); have n1_ := Aside0.mk (Kd.R_lower ho1 (below_size (by repeat (first | (with_reducible first | exact HB.out | apply below_alloc | apply pw_below_drewN | apply below_drew1) | exact HB.out)))); have n2_ := Aside0.mk (below_step (by repeat (first | (with_reducible first | exact HB.out | apply below_alloc | apply pw_below_drewN | apply below_drew1) | exact HB.out)) hb); clear HB; have HO250 := n0_; have HO252 := n1_; have HB := n2_; clear n0_ n1_ n2_; (try clear hb); (try clear hb2); (try clear hk); (try clear hi); (try clear ho0); (try clear ho1))))
    go_loopg [8, 9] k (fun kq v8 v9 w' => ∃ (x8_1 : Int) (x9_1 : Int), v8 = .int .i64 x8_1 ∧ v9 = .int .i64 x9_1 ∧ Aside0 (interchangelaw12_BeatTaken.l0 kq l0 a1 true t247 t248 x8_1 x9_1 = some r) ∧ Aside0 (kq ≤ k) ∧ Aside0 (Kd.R k24 24 w' w.heap.size (fun _ => True) v249 t247) ∧ Aside0 (Kd.R (Kd.int .i64) 3 w' w.heap.size (fun _ => True) v251 t248) ∧ Aside0 (Below w.heap.size w w'))
    case atStart => exact ⟨(0), (0), (by first | rfl | (simp; done) | (simp [*]; done)), (by first | rfl | (simp; done) | (simp [*]; done)), H', ⟨Nat.le_refl _⟩, ⟨by (with_reducible repeat (first | apply Kd.R_alloc | apply Kd.R_drewN | apply Kd.R_drew)); exact HO250.out⟩, ⟨by (with_reducible repeat (first | apply Kd.R_alloc | apply Kd.R_drewN | apply Kd.R_drew)); exact HO252.out⟩, ⟨by repeat (first | (with_reducible first | exact HB.out | apply below_alloc | apply pw_below_drewN | apply below_drew1) | exact HB.out)⟩⟩
    case round =>
      clear H'
      try clear p2
      try clear c4
      try clear c4b0
      try clear c4b1
      obtain ⟨x8_1, x9_1, rfl, rfl, HA, HK1, HO_6, HO_7, HB⟩ := hrel
      cases gk with
      | zero => exact absurd HA.out (by simp [interchangelaw12_BeatTaken.l0])
      | succ k1 =>
        have H := HA.out
        clear HA
        simp only [interchangelaw12_BeatTaken.l0] at H
        by_cases c9 : x9_1 < (l0.length : Int)
        · rw [if_pos c9] at H
          have c9b0 : decide (x9_1 < (l0.length : Int)) = true := decide_eq_true c9
          clear c9
          by_cases c10 : 0 ≤ x9_1
          · rw [if_pos c10] at H
            have c10b0 : decide (0 ≤ x9_1) = true := decide_eq_true c10
            clear c10
            by_cases c11 : ((rd_T24 l0 x9_1).f0) ≤ a1
            · rw [if_pos c11] at H
              have c11b0 : decide (((rd_T24 l0 x9_1).f0) ≤ a1) = true := decide_eq_true c11
              clear c11
              have H' := Aside0.mk H
              clear H
              have p253 : 0 ≤ (x9_1 : Int) := of_decide_eq_true (by first | (with_reducible assumption) | assumption)
              have q253 : x9_1 < (l0.length : Int) := of_decide_eq_true (by first | (with_reducible assumption) | assumption)
              obtain ⟨ad253, e253, hx253_0, hx253_1⟩ := at_T24 HR0.out x9_1 p253 q253
              cases e253
              replace hx253_0 := (HB.out.cell (World.block_lt_of_cell? w _ hx253_0)).trans hx253_0
              replace hx253_1 := (HB.out.cell (World.block_lt_of_cell? w _ hx253_1)).trans hx253_1
              replace p253 := eq_true p253
              replace q253 := eq_true q253
              go_wp2
              repeat (go_quiet (fail); try go_wp2)
              go_roundg k1
              case measure => have := HK1.out; omega
              case rel => exact ⟨(wrap64 (x8_1 + 1)), (wrap64 (x9_1 + 1)), (by first | rfl | (simp; done) | (simp [*]; done)), (by first | rfl | (simp; done) | (simp [*]; done)), H', ⟨by have := HK1.out; omega⟩, ⟨by (with_reducible repeat (first | apply Kd.R_alloc | apply Kd.R_drewN | apply Kd.R_drew)); exact HO_6.out⟩, ⟨by (with_reducible repeat (first | apply Kd.R_alloc | apply Kd.R_drewN | apply Kd.R_drew)); exact HO_7.out⟩, ⟨by repeat (first | (with_reducible first | exact HB.out | apply below_alloc | apply pw_below_drewN | apply below_drew1) | exact HB.out)⟩⟩
            · rw [if_neg c11] at H
              have c11b0 : decide (((rd_T24 l0 x9_1).f0) ≤ a1) = false := decide_eq_false c11
              clear c11
              have H' := Aside0.mk H
              clear H
              have p253 : 0 ≤ (x9_1 : Int) := of_decide_eq_true (by first | (with_reducible assumption) | assumption)
              have q253 : x9_1 < (l0.length : Int) := of_decide_eq_true (by first | (with_reducible assumption) | assumption)
              obtain ⟨ad253, e253, hx253_0, hx253_1⟩ := at_T24 HR0.out x9_1 p253 q253
              cases e253
              replace hx253_0 := (HB.out.cell (World.block_lt_of_cell? w _ hx253_0)).trans hx253_0
              replace hx253_1 := (HB.out.cell (World.block_lt_of_cell? w _ hx253_1)).trans hx253_1
              replace p253 := eq_true p253
              replace q253 := eq_true q253
              go_wp2
              repeat (go_quiet (fail); try go_wp2)
              go_roundg k1
              case measure => have := HK1.out; omega
              case rel => exact ⟨(x8_1), (wrap64 (x9_1 + 1)), (by first | rfl | (simp; done) | (simp [*]; done)), (by first | rfl | (simp; done) | (simp [*]; done)), H', ⟨by have := HK1.out; omega⟩, ⟨by (with_reducible repeat (first | apply Kd.R_alloc | apply Kd.R_drewN | apply Kd.R_drew)); exact HO_6.out⟩, ⟨by (with_reducible repeat (first | apply Kd.R_alloc | apply Kd.R_drewN | apply Kd.R_drew)); exact HO_7.out⟩, ⟨by repeat (first | (with_reducible first | exact HB.out | apply below_alloc | apply pw_below_drewN | apply below_drew1) | exact HB.out)⟩⟩
          · rw [if_neg c10] at H
            exact absurd H (by simp)
        · rw [if_neg c9] at H
          have c9b0 : decide (x9_1 < (l0.length : Int)) = false := decide_eq_false c9
          clear c9
          have H' := Aside0.mk H
          clear H
          go_wp2
          repeat (go_quiet (fail); try go_wp2)
          go_loopg [10] k1 (fun kq v10 w' => ∃ (x10_2 : Int), v10 = .int .i64 x10_2 ∧ Aside0 (interchangelaw12_BeatTaken.l1 kq l0 a1 true t247 t248 x8_1 x10_2 = some r) ∧ Aside0 (kq ≤ k1) ∧ Aside0 (Kd.R k24 24 w' w.heap.size (fun _ => True) v249 t247) ∧ Aside0 (Kd.R (Kd.int .i64) 3 w' w.heap.size (fun _ => True) v251 t248) ∧ Aside0 (Below w.heap.size w w'))
          case atStart => exact ⟨(0), (by first | rfl | (simp; done) | (simp [*]; done)), H', ⟨Nat.le_refl _⟩, ⟨by (with_reducible repeat (first | apply Kd.R_alloc | apply Kd.R_drewN | apply Kd.R_drew)); exact HO_6.out⟩, ⟨by (with_reducible repeat (first | apply Kd.R_alloc | apply Kd.R_drewN | apply Kd.R_drew)); exact HO_7.out⟩, ⟨by repeat (first | (with_reducible first | exact HB.out | apply below_alloc | apply pw_below_drewN | apply below_drew1) | exact HB.out)⟩⟩
          case round =>
            clear H'
            try clear c1
            try clear p2
            try clear q2
            try clear hx2
            try clear c4
            try clear c4b0
            try clear c4b1
            try clear p6
            try clear c9
            try clear c9b0
            try clear c10
            try clear c10b0
            try clear c11
            try clear c11b0
            try clear hx253_0
            try clear hx253_1
            try clear p2
            try clear p253
            try clear q253
            obtain ⟨x10_2, rfl, HA, HK2, HO_6, HO_7, HB⟩ := hrel
            cases gk with
            | zero => exact absurd HA.out (by simp [interchangelaw12_BeatTaken.l1])
            | succ k2 =>
              have H := HA.out
              clear HA
              simp only [interchangelaw12_BeatTaken.l1] at H
              by_cases c12 : x10_2 < (t247.length : Int)
              · rw [if_pos c12] at H
                have c12b0 : decide (x10_2 < (t247.length : Int)) = true := decide_eq_true c12
                clear c12
                by_cases c13 : 0 ≤ x10_2
                · rw [if_pos c13] at H
                  have c13b0 : decide (0 ≤ x10_2) = true := decide_eq_true c13
                  clear c13
                  by_cases c14 : ((rd_T24 t247 x10_2).f0) ≤ a1
                  · rw [if_pos c14] at H
                    exact absurd ((Option.some.inj H).trans hT_.out) (by decide)
                  · rw [if_neg c14] at H
                    have c14b0 : decide (((rd_T24 t247 x10_2).f0) ≤ a1) = false := decide_eq_false c14
                    clear c14
                    by_cases c15 : x10_2 > 0
                    · rw [if_pos c15] at H
                      have c15b0 : decide (0 < x10_2) = true := decide_eq_true c15
                      clear c15
                      obtain ⟨ji16, hji16⟩ : ∃ j_ : Int, (wrap64 (x10_2 - 1)) = j_ := ⟨_, rfl⟩
                      replace H : (if 0 ≤ (ji16) then (if (ji16) < (t247.length : Int) then (if ((rd_T24 t247 (ji16)).f0) > ((rd_T24 t247 x10_2).f0) then (some false) else (if ((rd_T24 t247 (ji16)).f0) = ((rd_T24 t247 x10_2).f0) then (if ((rd_T24 t247 (ji16)).f1) > ((rd_T24 t247 x10_2).f1) then (some false) else (interchangelaw12_BeatTaken.l1 k2 l0 a1 true t247 t248 x8_1 (wrap64 (x10_2 + 1)))) else (interchangelaw12_BeatTaken.l1 k2 l0 a1 true t247 t248 x8_1 (wrap64 (x10_2 + 1))))) else (none)) else (none)) = some r := by first | (rw [hji16] at H; exact H) | (simp only [hji16] at H ⊢; exact H)
                      have hji16w : (IntKind.i64.wrap (x10_2 - 1)) = ji16 := (i64_w _).trans hji16
                      by_cases c17 : 0 ≤ (ji16)
                      · rw [if_pos c17] at H
                        have c17b0 : decide (0 ≤ (ji16)) = true := decide_eq_true c17
                        clear c17
                        by_cases c18 : (ji16) < (t247.length : Int)
                        · rw [if_pos c18] at H
                          have c18b0 : decide ((ji16) < (t247.length : Int)) = true := decide_eq_true c18
                          clear c18
                          by_cases c19 : ((rd_T24 t247 (ji16)).f0) > ((rd_T24 t247 x10_2).f0)
                          · rw [if_pos c19] at H
                            exact absurd ((Option.some.inj H).trans hT_.out) (by decide)
                          · rw [if_neg c19] at H
                            have c19b0 : decide (((rd_T24 t247 x10_2).f0) < ((rd_T24 t247 (ji16)).f0)) = false := decide_eq_false c19
                            clear c19
                            by_cases c20 : ((rd_T24 t247 (ji16)).f0) = ((rd_T24 t247 x10_2).f0)
                            · rw [if_pos c20] at H
                              have c20b0 : (((rd_T24 t247 (ji16)).f0) == ((rd_T24 t247 x10_2).f0)) = true := beq_iff_eq.mpr c20
                              have c20b1 : (((rd_T24 t247 (ji16)).f0) != ((rd_T24 t247 x10_2).f0)) = false := bne_eq_false_iff_eq.mpr c20
                              clear c20
                              by_cases c21 : ((rd_T24 t247 (ji16)).f1) > ((rd_T24 t247 x10_2).f1)
                              · rw [if_pos c21] at H
                                exact absurd ((Option.some.inj H).trans hT_.out) (by decide)
                              · rw [if_neg c21] at H
                                have c21b0 : decide (((rd_T24 t247 x10_2).f1) < ((rd_T24 t247 (ji16)).f1)) = false := decide_eq_false c21
                                clear c21
                                have H' := Aside0.mk H
                                clear H
                                obtain ⟨Ao22, co22, eo22⟩ := Kd.R_slice HO_6.out
                                subst eo22
                                have p254 : 0 ≤ (x10_2 : Int) := of_decide_eq_true (by first | (with_reducible assumption) | assumption)
                                have q254 : x10_2 < (t247.length : Int) := of_decide_eq_true (by first | (with_reducible assumption) | assumption)
                                obtain ⟨ad254, e254, hx254_0, hx254_1⟩ := at_T24 (Kd.R_reads' HO_6.out).2.2 x10_2 p254 q254
                                cases e254
                                replace p254 := eq_true p254
                                replace q254 := eq_true q254
                                have p255 : 0 ≤ ((ji16) : Int) := of_decide_eq_true (by first | (with_reducible assumption) | assumption)
                                have q255 : (ji16) < (t247.length : Int) := of_decide_eq_true (by first | (with_reducible assumption) | assumption)
                                obtain ⟨ad255, e255, hx255_0, hx255_1⟩ := at_T24 (Kd.R_reads' HO_6.out).2.2 (ji16) p255 q255
                                obtain rfl : ad254 = ad255 := (by injection e255)
                                replace p255 := eq_true p255
                                replace q255 := eq_true q255
                                have p256 : 0 ≤ (x10_2 : Int) := of_decide_eq_true (by first | (with_reducible assumption) | assumption)
                                have q256 : x10_2 < (t247.length : Int) := of_decide_eq_true (by first | (with_reducible assumption) | assumption)
                                obtain ⟨ad256, e256, hx256_0, hx256_1⟩ := at_T24 (Kd.R_reads' HO_6.out).2.2 x10_2 p256 q256
                                obtain rfl : ad254 = ad256 := (by injection e256)
                                replace p256 := eq_true p256
                                replace q256 := eq_true q256
                                have p257 : 0 ≤ ((ji16) : Int) := of_decide_eq_true (by first | (with_reducible assumption) | assumption)
                                have q257 : (ji16) < (t247.length : Int) := of_decide_eq_true (by first | (with_reducible assumption) | assumption)
                                obtain ⟨ad257, e257, hx257_0, hx257_1⟩ := at_T24 (Kd.R_reads' HO_6.out).2.2 (ji16) p257 q257
                                obtain rfl : ad254 = ad257 := (by injection e257)
                                replace p257 := eq_true p257
                                replace q257 := eq_true q257
                                have p258 : 0 ≤ (x10_2 : Int) := of_decide_eq_true (by first | (with_reducible assumption) | assumption)
                                have q258 : x10_2 < (t247.length : Int) := of_decide_eq_true (by first | (with_reducible assumption) | assumption)
                                obtain ⟨ad258, e258, hx258_0, hx258_1⟩ := at_T24 (Kd.R_reads' HO_6.out).2.2 x10_2 p258 q258
                                obtain rfl : ad254 = ad258 := (by injection e258)
                                replace p258 := eq_true p258
                                replace q258 := eq_true q258
                                have p259 : 0 ≤ ((ji16) : Int) := of_decide_eq_true (by first | (with_reducible assumption) | assumption)
                                have q259 : (ji16) < (t247.length : Int) := of_decide_eq_true (by first | (with_reducible assumption) | assumption)
                                obtain ⟨ad259, e259, hx259_0, hx259_1⟩ := at_T24 (Kd.R_reads' HO_6.out).2.2 (ji16) p259 q259
                                obtain rfl : ad254 = ad259 := (by injection e259)
                                replace p259 := eq_true p259
                                replace q259 := eq_true q259
                                have p260 : 0 ≤ (x10_2 : Int) := of_decide_eq_true (by first | (with_reducible assumption) | assumption)
                                have q260 : x10_2 < (t247.length : Int) := of_decide_eq_true (by first | (with_reducible assumption) | assumption)
                                obtain ⟨ad260, e260, hx260_0, hx260_1⟩ := at_T24 (Kd.R_reads' HO_6.out).2.2 x10_2 p260 q260
                                obtain rfl : ad254 = ad260 := (by injection e260)
                                replace p260 := eq_true p260
                                replace q260 := eq_true q260
                                go_wp2
                                repeat (go_quiet (fail); try go_wp2)
                                go_roundg k2
                                case measure => have := HK1.out; have := HK2.out; omega
                                case rel => exact ⟨(wrap64 (x10_2 + 1)), (by first | rfl | (simp; done) | (simp [*]; done)), H', ⟨by have := HK1.out; have := HK2.out; omega⟩, ⟨by (with_reducible repeat (first | apply Kd.R_alloc | apply Kd.R_drewN | apply Kd.R_drew)); exact HO_6.out⟩, ⟨by (with_reducible repeat (first | apply Kd.R_alloc | apply Kd.R_drewN | apply Kd.R_drew)); exact HO_7.out⟩, ⟨by repeat (first | (with_reducible first | exact HB.out | apply below_alloc | apply pw_below_drewN | apply below_drew1) | exact HB.out)⟩⟩
                            · rw [if_neg c20] at H
                              have c20b0 : (((rd_T24 t247 (ji16)).f0) == ((rd_T24 t247 x10_2).f0)) = false := beq_eq_false_iff_ne.mpr c20
                              have c20b1 : (((rd_T24 t247 (ji16)).f0) != ((rd_T24 t247 x10_2).f0)) = true := bne_iff_ne.mpr c20
                              have H' := Aside0.mk H
                              clear H
                              obtain ⟨Ao23, co23, eo23⟩ := Kd.R_slice HO_6.out
                              subst eo23
                              have p254 : 0 ≤ (x10_2 : Int) := of_decide_eq_true (by first | (with_reducible assumption) | assumption)
                              have q254 : x10_2 < (t247.length : Int) := of_decide_eq_true (by first | (with_reducible assumption) | assumption)
                              obtain ⟨ad254, e254, hx254_0, hx254_1⟩ := at_T24 (Kd.R_reads' HO_6.out).2.2 x10_2 p254 q254
                              cases e254
                              replace p254 := eq_true p254
                              replace q254 := eq_true q254
                              have p255 : 0 ≤ ((ji16) : Int) := of_decide_eq_true (by first | (with_reducible assumption) | assumption)
                              have q255 : (ji16) < (t247.length : Int) := of_decide_eq_true (by first | (with_reducible assumption) | assumption)
                              obtain ⟨ad255, e255, hx255_0, hx255_1⟩ := at_T24 (Kd.R_reads' HO_6.out).2.2 (ji16) p255 q255
                              obtain rfl : ad254 = ad255 := (by injection e255)
                              replace p255 := eq_true p255
                              replace q255 := eq_true q255
                              have p256 : 0 ≤ (x10_2 : Int) := of_decide_eq_true (by first | (with_reducible assumption) | assumption)
                              have q256 : x10_2 < (t247.length : Int) := of_decide_eq_true (by first | (with_reducible assumption) | assumption)
                              obtain ⟨ad256, e256, hx256_0, hx256_1⟩ := at_T24 (Kd.R_reads' HO_6.out).2.2 x10_2 p256 q256
                              obtain rfl : ad254 = ad256 := (by injection e256)
                              replace p256 := eq_true p256
                              replace q256 := eq_true q256
                              have p257 : 0 ≤ ((ji16) : Int) := of_decide_eq_true (by first | (with_reducible assumption) | assumption)
                              have q257 : (ji16) < (t247.length : Int) := of_decide_eq_true (by first | (with_reducible assumption) | assumption)
                              obtain ⟨ad257, e257, hx257_0, hx257_1⟩ := at_T24 (Kd.R_reads' HO_6.out).2.2 (ji16) p257 q257
                              obtain rfl : ad254 = ad257 := (by injection e257)
                              replace p257 := eq_true p257
                              replace q257 := eq_true q257
                              have p258 : 0 ≤ (x10_2 : Int) := of_decide_eq_true (by first | (with_reducible assumption) | assumption)
                              have q258 : x10_2 < (t247.length : Int) := of_decide_eq_true (by first | (with_reducible assumption) | assumption)
                              obtain ⟨ad258, e258, hx258_0, hx258_1⟩ := at_T24 (Kd.R_reads' HO_6.out).2.2 x10_2 p258 q258
                              obtain rfl : ad254 = ad258 := (by injection e258)
                              replace p258 := eq_true p258
                              replace q258 := eq_true q258
                              go_wp2
                              repeat (go_quiet (fail); try go_wp2)
                              go_roundg k2
                              case measure => have := HK1.out; have := HK2.out; omega
                              case rel => exact ⟨(wrap64 (x10_2 + 1)), (by first | rfl | (simp; done) | (simp [*]; done)), H', ⟨by have := HK1.out; have := HK2.out; omega⟩, ⟨by (with_reducible repeat (first | apply Kd.R_alloc | apply Kd.R_drewN | apply Kd.R_drew)); exact HO_6.out⟩, ⟨by (with_reducible repeat (first | apply Kd.R_alloc | apply Kd.R_drewN | apply Kd.R_drew)); exact HO_7.out⟩, ⟨by repeat (first | (with_reducible first | exact HB.out | apply below_alloc | apply pw_below_drewN | apply below_drew1) | exact HB.out)⟩⟩
                        · rw [if_neg c18] at H
                          exact absurd H (by simp)
                      · rw [if_neg c17] at H
                        exact absurd H (by simp)
                    · rw [if_neg c15] at H
                      have c15b0 : decide (0 < x10_2) = false := decide_eq_false c15
                      clear c15
                      have H' := Aside0.mk H
                      clear H
                      obtain ⟨Ao24, co24, eo24⟩ := Kd.R_slice HO_6.out
                      subst eo24
                      have p254 : 0 ≤ (x10_2 : Int) := of_decide_eq_true (by first | (with_reducible assumption) | assumption)
                      have q254 : x10_2 < (t247.length : Int) := of_decide_eq_true (by first | (with_reducible assumption) | assumption)
                      obtain ⟨ad254, e254, hx254_0, hx254_1⟩ := at_T24 (Kd.R_reads' HO_6.out).2.2 x10_2 p254 q254
                      cases e254
                      replace p254 := eq_true p254
                      replace q254 := eq_true q254
                      go_wp2
                      repeat (go_quiet (fail); try go_wp2)
                      go_roundg k2
                      case measure => have := HK1.out; have := HK2.out; omega
                      case rel => exact ⟨(wrap64 (x10_2 + 1)), (by first | rfl | (simp; done) | (simp [*]; done)), H', ⟨by have := HK1.out; have := HK2.out; omega⟩, ⟨by (with_reducible repeat (first | apply Kd.R_alloc | apply Kd.R_drewN | apply Kd.R_drew)); exact HO_6.out⟩, ⟨by (with_reducible repeat (first | apply Kd.R_alloc | apply Kd.R_drewN | apply Kd.R_drew)); exact HO_7.out⟩, ⟨by repeat (first | (with_reducible first | exact HB.out | apply below_alloc | apply pw_below_drewN | apply below_drew1) | exact HB.out)⟩⟩
                · rw [if_neg c13] at H
                  exact absurd H (by simp)
              · rw [if_neg c12] at H
                have c12b0 : decide (x10_2 < (t247.length : Int)) = false := decide_eq_false c12
                clear c12
                have c25 : true = true := rfl
                · clear c25
                  have H1 : (if (t248.length : Int) = x8_1 then (some ((t247.length : Int) == (wrap64 ((l0.length : Int) - x8_1)))) else (some false)) = some r := by first | (rw [if_pos rfl] at H; exact H) | (rw [if_pos trivial] at H; exact H)
                  clear H
                  have H := H1
                  clear H1
                  by_cases c26 : (t248.length : Int) = x8_1
                  · rw [if_pos c26] at H
                    have c26b0 : ((t248.length : Int) == x8_1) = true := beq_iff_eq.mpr c26
                    have c26b1 : ((t248.length : Int) != x8_1) = false := bne_eq_false_iff_eq.mpr c26
                    clear c26
                    replace H : (if (t247.length : Int) = (wrap64 ((l0.length : Int) - x8_1)) then (some true) else (some false)) = some r := by
                      rw [← H]
                      by_cases hc_ : (t247.length : Int) = (wrap64 ((l0.length : Int) - x8_1))
                      · rw [if_pos hc_]; exact congrArg some (Eq.symm (by first | exact decide_eq_true hc_ | exact beq_iff_eq.mpr hc_ | exact hc_ | (simp [hc_]; done) | simp_all))
                      · rw [if_neg hc_]; exact congrArg some (Eq.symm (by first | exact decide_eq_false hc_ | exact beq_eq_false_iff_ne.mpr hc_ | exact Bool.eq_false_iff.mpr hc_ | (simp [hc_]; done) | simp_all))
                    by_cases c27 : (t247.length : Int) = (wrap64 ((l0.length : Int) - x8_1))
                    · rw [if_pos c27] at H
                      have c27b0 : ((t247.length : Int) == (wrap64 ((l0.length : Int) - x8_1))) = true := beq_iff_eq.mpr c27
                      have c27b1 : ((t247.length : Int) != (wrap64 ((l0.length : Int) - x8_1))) = false := bne_eq_false_iff_eq.mpr c27
                      clear c27
                      obtain rfl := Option.some.inj H
                      obtain ⟨Ao28, co28, eo28⟩ := Kd.R_slice HO_6.out
                      subst eo28
                      obtain ⟨Ao29, co29, eo29⟩ := Kd.R_slice HO_7.out
                      subst eo29
                      go_wp2
                      repeat (go_quiet (fail); try go_wp2)
                      go_ret
                      exact ⟨by first | rfl | (simp [errW_none, errW_some] <;> rfl) | (simp [*, errW_none, errW_some] <;> rfl) | (exfalso; simp only [decide_eq_true_eq, decide_eq_false_iff_not, beq_iff_eq, bne_iff_ne, ne_eq, beq_eq_false_iff_ne, bne_eq_false_iff_eq] at *; omega), by repeat (first | (with_reducible first | exact HB.out | apply below_alloc | apply pw_below_drewN | apply below_drew1) | exact HB.out)⟩
                    · rw [if_neg c27] at H
                      exact absurd ((Option.some.inj H).trans hT_.out) (by decide)
                  · rw [if_neg c26] at H
                    exact absurd ((Option.some.inj H).trans hT_.out) (by decide)
end Go.Proofs.Yteomnodigfcfeaa.Q
