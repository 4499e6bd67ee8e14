/- This text was written by a program of this session: what each Go function computes, as a Lean function, and that its call does so. -/
import Derived.Test.YtpfaidejbnbelaaQ0
import Derived.Test.YtpfaidejbnbelaaQ11
import Derived.Test.YtpfaidejbnbelaaQ13
import Derived.Test.YtpfaidejbnbelaaQ9
import Derived.Test.YtpfaidejbnbelaaH12
namespace Go.Proofs.Ytpfaidejbnbelaa.Q
open Go.RowKit Go.Proofs.YtpfaidejbnbelaaW.PrintWords Go.Proofs.YtpfaidejbnbelaaW.PrintLast Go.Proofs.YtpfaidejbnbelaaW.PrintMore
attribute [local go_sem] max2_int min2_int max_two min_two max_three min_three max_four min_four   -- for this text's walks alone
set_option linter.unusedVariables false
set_option linter.unusedSimpArgs false

/-! ### interchangelaw14_LineFull: function 4 -/
def interchangelaw14_LineFull.f (k : Nat) (l0 : List Int) (a1 : Int) (a2 : Int) : Option (Bool) := (interchangelaw14_shown.f).bind fun t134 => ((line_Add.f l0 a1 a2).bind fun bt135 => (if bt135.2 = 0 then (if t134 = true then (if (bt135.1.length : Int) = (wrap64 ((l0.length : Int) + 1)) then (if (bt135.1.length : Int) ≤ a2 then (if (bt135.1.length : Int) ≤ 1000 then ((line_At.f k l0 a1).bind fun t139 => (if t139 = (-1) then (if 0 ≤ (wrap64 ((bt135.1.length : Int) - 1)) then (if (wrap64 ((bt135.1.length : Int) - 1)) < (bt135.1.length : Int) then (if (rd bt135.1 (wrap64 ((bt135.1.length : Int) - 1))) = a1 then (some (decide (a1 ≥ 1))) else (some false)) else (none)) else (none)) else (some false))) else (some false)) else (some false)) else (some false)) else (some false)) else (if t134 = true then ((interchangeref05_Ints.f k bt135.1 l0).bind fun t141 => (if t141 = true then (some ((bt135.2 == 1) == (decide (a1 < 1)))) else (some false))) else (some false))))
theorem interchangelaw14_LineFull.mono : ∀ a0 a1 a2 k, LeO (interchangelaw14_LineFull.f k a0 a1 a2) (interchangelaw14_LineFull.f (k + 1) a0 a1 a2) := by
  intro a0 a1 a2 k
  unfold interchangelaw14_LineFull.f
  repeat' first
      | (with_reducible exact interchangeref05_Ints.mono _ _ _)
      | (with_reducible exact line_At.mono _ _ _)
      | (with_reducible exact LeO.refl _)
      | (with_reducible exact LeO.none _)
      | (with_reducible refine LeO.ite ?_ ?_)
      | (with_reducible refine LeO.bind ?_ (fun _ => ?_))
      | exact interchangeref05_Ints.mono _ _ _
      | exact line_At.mono _ _ _
      | exact LeO.none _
      | refine LeO.ite ?_ ?_
      | refine LeO.bind ?_ (fun _ => ?_)
set_option maxHeartbeats 8000000 in
set_option maxRecDepth 100000 in
theorem interchangelaw14_LineFull.calls (k : Nat) (A0 : Option Addr) (c0 : Nat) (l0 : List Int) (a1 : Int) (a2 : Int) (r : Bool) (w : World) (hr0 : Kd.C (Kd.int .i64) w A0 l0.length l0) (hc0 : l0.length ≤ c0) (hT_ : Aside0 (r = true)) (h : interchangelaw14_LineFull.f k l0 a1 a2 = some r) :
    Calls Try.prog 4 #[.slice A0 l0.length c0, .int .i64 a1, .int .i64 a2] w fun e w' => e = .returned (.bool r) ∧ Below w.heap.size w w' := by
  have HR0 := Aside0.mk hr0
  have HC0 := Aside0.mk hc0
  clear hr0 hc0
  have HB := Aside0.mk (Below.refl w.heap.size w)
  have H : ((interchangelaw14_shown.f).bind fun t134 => ((line_Add.f l0 a1 a2).bind fun bt135 => (if bt135.2 = 0 then (if t134 = true then (if (bt135.1.length : Int) = (wrap64 ((l0.length : Int) + 1)) then (if (bt135.1.length : Int) ≤ a2 then (if (bt135.1.length : Int) ≤ 1000 then ((line_At.f k l0 a1).bind fun t139 => (if t139 = (-1) then (if 0 ≤ (wrap64 ((bt135.1.length : Int) - 1)) then (if (wrap64 ((bt135.1.length : Int) - 1)) < (bt135.1.length : Int) then (if (rd bt135.1 (wrap64 ((bt135.1.length : Int) - 1))) = a1 then (some (decide (a1 ≥ 1))) else (some false)) else (none)) else (none)) else (some false))) else (some false)) else (some false)) else (some false)) else (some false)) else (if t134 = true then ((interchangeref05_Ints.f k bt135.1 l0).bind fun t141 => (if t141 = true then (some ((bt135.2 == 1) == (decide (a1 < 1)))) else (some false))) else (some false))))) = some r := h
  clear h
  replace H := Option.bind_eq_some_iff.mp H
  obtain ⟨t134, A40, H⟩ := H
  replace H : ((line_Add.f l0 a1 a2).bind fun bt135 => (if bt135.2 = 0 then (if t134 = true then (if (bt135.1.length : Int) = (wrap64 ((l0.length : Int) + 1)) then (if (bt135.1.length : Int) ≤ a2 then (if (bt135.1.length : Int) ≤ 1000 then ((line_At.f k l0 a1).bind fun t139 => (if t139 = (-1) then (if 0 ≤ (wrap64 ((bt135.1.length : Int) - 1)) then (if (wrap64 ((bt135.1.length : Int) - 1)) < (bt135.1.length : Int) then (if (rd bt135.1 (wrap64 ((bt135.1.length : Int) - 1))) = a1 then (some (decide (a1 ≥ 1))) else (some false)) else (none)) else (none)) else (some false))) else (some false)) else (some false)) else (some false)) else (some false)) else (if t134 = true then ((interchangeref05_Ints.f k bt135.1 l0).bind fun t141 => (if t141 = true then (some ((bt135.2 == 1) == (decide (a1 < 1)))) else (some false))) else (some false)))) = some r := H
  have A4 := Aside0.mk A40
  clear A40
  replace H := Option.bind_eq_some_iff.mp H
  obtain ⟨⟨t135, t138⟩, A50, H⟩ := H
  replace H : (if t138 = 0 then (if t134 = true then (if (t135.length : Int) = (wrap64 ((l0.length : Int) + 1)) then (if (t135.length : Int) ≤ a2 then (if (t135.length : Int) ≤ 1000 then ((line_At.f k l0 a1).bind fun t139 => (if t139 = (-1) then (if 0 ≤ (wrap64 ((t135.length : Int) - 1)) then (if (wrap64 ((t135.length : Int) - 1)) < (t135.length : Int) then (if (rd t135 (wrap64 ((t135.length : Int) - 1))) = a1 then (some (decide (a1 ≥ 1))) else (some false)) else (none)) else (none)) else (some false))) else (some false)) else (some false)) else (some false)) else (some false)) else (if t134 = true then ((interchangeref05_Ints.f k t135 l0).bind fun t141 => (if t141 = true then (some ((t138 == 1) == (decide (a1 < 1)))) else (some false))) else (some false))) = some r := H
  have A5 := Aside0.mk A50
  clear A50
  by_cases c6 : t138 = 0
  · rw [if_pos c6] at H
    have c6b0 : (t138 == 0) = true := beq_iff_eq.mpr c6
    have c6b1 : (t138 != 0) = false := bne_eq_false_iff_eq.mpr c6
    clear c6
    by_cases c7 : t134 = true
    · subst c7
      have H1 : (if (t135.length : Int) = (wrap64 ((l0.length : Int) + 1)) then (if (t135.length : Int) ≤ a2 then (if (t135.length : Int) ≤ 1000 then ((line_At.f k l0 a1).bind fun t139 => (if t139 = (-1) then (if 0 ≤ (wrap64 ((t135.length : Int) - 1)) then (if (wrap64 ((t135.length : Int) - 1)) < (t135.length : Int) then (if (rd t135 (wrap64 ((t135.length : Int) - 1))) = a1 then (some (decide (a1 ≥ 1))) else (some false)) else (none)) else (none)) else (some false))) else (some false)) else (some false)) else (some false)) = some r := by rw [if_pos rfl] at H; exact H
      clear H
      have H := H1
      clear H1
      by_cases c8 : (t135.length : Int) = (wrap64 ((l0.length : Int) + 1))
      · rw [if_pos c8] at H
        have c8b0 : ((t135.length : Int) == (wrap64 ((l0.length : Int) + 1))) = true := beq_iff_eq.mpr c8
        have c8b1 : ((t135.length : Int) != (wrap64 ((l0.length : Int) + 1))) = false := bne_eq_false_iff_eq.mpr c8
        clear c8
        by_cases c9 : (t135.length : Int) ≤ a2
        · rw [if_pos c9] at H
          have c9b0 : decide ((t135.length : Int) ≤ a2) = true := decide_eq_true c9
          clear c9
          by_cases c10 : (t135.length : Int) ≤ 1000
          · rw [if_pos c10] at H
            have c10b0 : decide ((t135.length : Int) ≤ 1000) = true := decide_eq_true c10
            have c10b1 : decide (t135.length ≤ 1000) = true := decide_eq_true (by omega)
            clear c10
            replace H := Option.bind_eq_some_iff.mp H
            obtain ⟨t139, A110, H⟩ := H
            replace H : (if t139 = (-1) then (if 0 ≤ (wrap64 ((t135.length : Int) - 1)) then (if (wrap64 ((t135.length : Int) - 1)) < (t135.length : Int) then (if (rd t135 (wrap64 ((t135.length : Int) - 1))) = a1 then (some (decide (a1 ≥ 1))) else (some false)) else (none)) else (none)) else (some false)) = some r := H
            have A11 := Aside0.mk A110
            clear A110
            by_cases c12 : t139 = (-1)
            · rw [if_pos c12] at H
              have c12b0 : (t139 == (-1)) = true := beq_iff_eq.mpr c12
              have c12b1 : (t139 != (-1)) = false := bne_eq_false_iff_eq.mpr c12
              clear c12
              obtain ⟨ji13, hji13⟩ : ∃ j_ : Int, (wrap64 ((t135.length : Int) - 1)) = j_ := ⟨_, rfl⟩
              replace H : (if 0 ≤ (ji13) then (if (ji13) < (t135.length : Int) then (if (rd t135 (ji13)) = a1 then (some (decide (a1 ≥ 1))) else (some false)) else (none)) else (none)) = some r := by first | (rw [hji13] at H; exact H) | (simp only [hji13] at H ⊢; exact H)
              (try rw [hji13] at A4)
              (try rw [hji13] at A5)
              (try rw [hji13] at A11)
              have hji13w : (IntKind.i64.wrap ((t135.length : Int) - 1)) = ji13 := (i64_w _).trans hji13
              by_cases c14 : 0 ≤ (ji13)
              · rw [if_pos c14] at H
                have c14b0 : decide (0 ≤ (ji13)) = true := decide_eq_true c14
                clear c14
                by_cases c15 : (ji13) < (t135.length : Int)
                · rw [if_pos c15] at H
                  have c15b0 : decide ((ji13) < (t135.length : Int)) = true := decide_eq_true c15
                  clear c15
                  by_cases c16 : (rd t135 (ji13)) = a1
                  · rw [if_pos c16] at H
                    have c16b0 : ((rd t135 (ji13)) == a1) = true := beq_iff_eq.mpr c16
                    have c16b1 : ((rd t135 (ji13)) != a1) = false := bne_eq_false_iff_eq.mpr c16
                    clear c16
                    replace H : (if a1 ≥ 1 then (some true) else (some false)) = some r := by
                      rw [← H]
                      by_cases hc_ : a1 ≥ 1
                      · rw [if_pos hc_]; exact congrArg some (Eq.symm (by first | exact decide_eq_true hc_ | exact beq_iff_eq.mpr hc_ | exact hc_ | (simp [hc_]; done) | simp_all))
                      · rw [if_neg hc_]; exact congrArg some (Eq.symm (by first | exact decide_eq_false hc_ | exact beq_eq_false_iff_ne.mpr hc_ | exact Bool.eq_false_iff.mpr hc_ | (simp [hc_]; done) | simp_all))
                    by_cases c17 : a1 ≥ 1
                    · rw [if_pos c17] at H
                      have c17b0 : decide (1 ≤ a1) = true := decide_eq_true c17
                      clear c17
                      obtain rfl := Option.some.inj H
                      go_enter Try.func4, Try.ntmps4
                      go_wp2_with (first | ((with_reducible refine gate_callee (f := 9) rfl ?_); refine goesL_ (some 10) rfl rfl Try.func9 (by kernel_rfl) rfl #[] rfl (by (try simp only [List.map_toArray, List.map_cons, List.map_nil]); first | done | rfl | (simp only [List.length_drop, List.length_take]; rfl)) ?_; (with_reducible refine (interchangelaw14_shown.calls  true _ A4.out).mono ?_); rintro e w18 ⟨rfl, hb⟩; refine ⟨_, rfl, ?_⟩; have n0_ := Aside0.mk (below_step (by repeat (first | (with_reducible first | exact HB.out | apply below_alloc | apply pw_below_drewN | apply below_drew1) | exact HB.out)) hb); clear HB; have HB := n0_; clear n0_; (try clear hb); (try clear hb2); (try clear hk); (try clear hi)) | ((with_reducible refine gate_callee (f := 12) rfl ?_); refine goesL_ (some 15) rfl rfl Try.func12 (by kernel_rfl) rfl #[.slice A0 l0.length c0, .int .i64 a1, .int .i64 a2] rfl (by (try simp only [List.map_toArray, List.map_cons, List.map_nil]); first | done | rfl | (simp only [List.length_drop, List.length_take]; rfl)) ?_; (with_reducible refine (line_Add.calls (fun k_ => k_ < w.heap.size) _ _ l0 a1 a2 t135 t138 _ ?side1 A5.out).mono ?_); (case side1 => exact Kd.V_mk HC0.out (Kd.F_below (Kd.C_F (Kd.heap_int .i64) HR0.out) (by repeat (first | (with_reducible first | exact HB.out | apply below_alloc | apply pw_below_drewN | apply below_drew1) | exact HB.out)))); rintro e w19 ⟨v136, rfl, ho0, hb⟩; refine ⟨_, rfl, ?_⟩; have n0_ := Aside0.mk (Kd.V_lower (Kd.V_mono (ok' := fun k_ => True) ho0 (fun k_ hk_ => trivial)) (below_size (by repeat (first | (with_reducible first | exact HB.out | apply below_alloc | apply pw_below_drewN | apply below_drew1) | exact HB.out)))); have n1_ := Aside0.mk (below_step (by repeat (first | (with_reducible first | exact HB.out | apply below_alloc | apply pw_below_drewN | apply below_drew1) | exact HB.out)) hb); clear HB; have HO137 := n0_; have HB := n1_; clear n0_ n1_; (try clear hb); (try clear hb2); (try clear hk); (try clear hi); (try clear ho0); obtain ⟨Ao20, co20, eo20⟩ := Kd.V_slice HO137.out; subst eo20) | (go_at_call 11; (with_reducible refine (line_At.calls k _ _ l0 a1 t139 _ ?side1 ?side2 A11.out).mono ?_); (case side1 => repeat (first | exact (Kd.C_below HR0.out HB.out) | (with_reducible refine Kd.C_alloc ?_ _) | (with_reducible refine Kd.C_drewN ?_ _) | (with_reducible refine Kd.C_drew ?_))); (case side2 => exact HC0.out); rintro e w' ⟨rfl, ⟨nd, rfl⟩⟩; have p140 : 0 ≤ ((ji13) : Int) := of_decide_eq_true (by first | (with_reducible assumption) | assumption); have q140 : (ji13) < (t135.length : Int) := of_decide_eq_true (by first | (with_reducible assumption) | assumption); obtain ⟨ad140, e140, hx140_0⟩ := Kd.at_int (Kd.V_reads' HO137.out).2.2 (ji13) p140 q140; cases e140; replace p140 := eq_true p140; replace q140 := eq_true q140))
                      go_ret
                      exact ⟨by first | rfl | (simp [errW_none, errW_some] <;> rfl) | (simp only [← hji13]; first | rfl | (simp [errW_none, errW_some] <;> rfl)) | (simp [*, errW_none, errW_some] <;> rfl) | (exfalso; simp only [decide_eq_true_eq, decide_eq_false_iff_not, beq_iff_eq, bne_iff_ne, ne_eq, beq_eq_false_iff_ne, bne_eq_false_iff_eq] at *; omega), by repeat (first | (with_reducible first | exact HB.out | apply below_alloc | apply pw_below_drewN | apply below_drew1) | exact HB.out)⟩
                    · rw [if_neg c17] at H
                      exact absurd ((Option.some.inj H).trans hT_.out) (by decide)
                  · rw [if_neg c16] at H
                    exact absurd ((Option.some.inj H).trans hT_.out) (by decide)
                · rw [if_neg c15] at H
                  exact absurd H (by simp)
              · rw [if_neg c14] at H
                exact absurd H (by simp)
            · rw [if_neg c12] at H
              exact absurd ((Option.some.inj H).trans hT_.out) (by decide)
          · rw [if_neg c10] at H
            exact absurd ((Option.some.inj H).trans hT_.out) (by decide)
        · rw [if_neg c9] at H
          exact absurd ((Option.some.inj H).trans hT_.out) (by decide)
      · rw [if_neg c8] at H
        exact absurd ((Option.some.inj H).trans hT_.out) (by decide)
    · replace c7 := Bool.eq_false_iff.mpr c7
      subst c7
      have H1 : (some false) = some r := by rw [if_neg (show ¬ (false = true) by decide)] at H; exact H
      clear H
      have H := H1
      clear H1
      exact absurd ((Option.some.inj H).trans hT_.out) (by decide)
  · rw [if_neg c6] at H
    have c6b0 : (t138 == 0) = false := beq_eq_false_iff_ne.mpr c6
    have c6b1 : (t138 != 0) = true := bne_iff_ne.mpr c6
    by_cases c21 : t134 = true
    · subst c21
      have H1 : ((interchangeref05_Ints.f k t135 l0).bind fun t141 => (if t141 = true then (some ((t138 == 1) == (decide (a1 < 1)))) else (some false))) = some r := by rw [if_pos rfl] at H; exact H
      clear H
      have H := H1
      clear H1
      replace H := Option.bind_eq_some_iff.mp H
      obtain ⟨t141, A220, H⟩ := H
      replace H : (if t141 = true then (some ((t138 == 1) == (decide (a1 < 1)))) else (some false)) = some r := H
      have A22 := Aside0.mk A220
      clear A220
      by_cases c23 : t141 = true
      · subst c23
        have H1 : (some ((t138 == 1) == (decide (a1 < 1)))) = some r := by rw [if_pos rfl] at H; exact H
        clear H
        have H := H1
        clear H1
        replace H : (if ((t138 == 1) == (decide (a1 < 1))) = true then (some true) else (some false)) = some r := by
          rw [← H]
          by_cases hc_ : ((t138 == 1) == (decide (a1 < 1))) = true
          · rw [if_pos hc_]; exact congrArg some (Eq.symm (by first | exact decide_eq_true hc_ | exact beq_iff_eq.mpr hc_ | exact hc_ | (simp [hc_]; done) | simp_all))
          · rw [if_neg hc_]; exact congrArg some (Eq.symm (by first | exact decide_eq_false hc_ | exact beq_eq_false_iff_ne.mpr hc_ | exact Bool.eq_false_iff.mpr hc_ | (simp [hc_]; done) | simp_all))
        by_cases c24 : ((t138 == 1) == (decide (a1 < 1))) = true
        · rw [if_pos c24] at H
          have c24b0 : ((t138 == 1) == (decide (a1 < 1))) = true := c24
          (try (have c24b1 : decide ((t138 == 1) = (decide (a1 < 1))) = true := by simpa using c24))
          (try (have c24b2 : ((t138 == 1) == (decide (a1 < 1))) = true := by simpa using c24))
          clear c24
          obtain rfl := Option.some.inj H
          go_enter Try.func4, Try.ntmps4
          go_wp2_with (first | ((with_reducible refine gate_callee (f := 9) rfl ?_); refine goesL_ (some 10) rfl rfl Try.func9 (by kernel_rfl) rfl #[] rfl (by (try simp only [List.map_toArray, List.map_cons, List.map_nil]); first | done | rfl | (simp only [List.length_drop, List.length_take]; rfl)) ?_; (with_reducible refine (interchangelaw14_shown.calls  true _ A4.out).mono ?_); rintro e w25 ⟨rfl, hb⟩; refine ⟨_, rfl, ?_⟩; have n0_ := Aside0.mk (below_step (by repeat (first | (with_reducible first | exact HB.out | apply below_alloc | apply pw_below_drewN | apply below_drew1) | exact HB.out)) hb); clear HB; have HB := n0_; clear n0_; (try clear hb); (try clear hb2); (try clear hk); (try clear hi)) | ((with_reducible refine gate_callee (f := 12) rfl ?_); refine goesL_ (some 15) rfl rfl Try.func12 (by kernel_rfl) rfl #[.slice A0 l0.length c0, .int .i64 a1, .int .i64 a2] rfl (by (try simp only [List.map_toArray, List.map_cons, List.map_nil]); first | done | rfl | (simp only [List.length_drop, List.length_take]; rfl)) ?_; (with_reducible refine (line_Add.calls (fun k_ => k_ < w.heap.size) _ _ l0 a1 a2 t135 t138 _ ?side1 A5.out).mono ?_); (case side1 => exact Kd.V_mk HC0.out (Kd.F_below (Kd.C_F (Kd.heap_int .i64) HR0.out) (by repeat (first | (with_reducible first | exact HB.out | apply below_alloc | apply pw_below_drewN | apply below_drew1) | exact HB.out)))); rintro e w26 ⟨v136, rfl, ho0, hb⟩; refine ⟨_, rfl, ?_⟩; have n0_ := Aside0.mk (Kd.V_lower (Kd.V_mono (ok' := fun k_ => True) ho0 (fun k_ hk_ => trivial)) (below_size (by repeat (first | (with_reducible first | exact HB.out | apply below_alloc | apply pw_below_drewN | apply below_drew1) | exact HB.out)))); have n1_ := Aside0.mk (below_step (by repeat (first | (with_reducible first | exact HB.out | apply below_alloc | apply pw_below_drewN | apply below_drew1) | exact HB.out)) hb); clear HB; have HO137 := n0_; have HB := n1_; clear n0_ n1_; (try clear hb); (try clear hb2); (try clear hk); (try clear hi); (try clear ho0); obtain ⟨Ao27, co27, eo27⟩ := Kd.V_slice HO137.out; subst eo27) | (go_at_call 13; (with_reducible refine (interchangeref05_Ints.calls k _ _ t135 _ _ l0 true _ ?side1 ?side2 ?side3 ?side4 A22.out).mono ?_); (case side1 => repeat (first | exact (Kd.V_reads' HO137.out).2.2 | (with_reducible refine Kd.C_alloc ?_ _) | (with_reducible refine Kd.C_drewN ?_ _) | (with_reducible refine Kd.C_drew ?_))); (case side2 => exact (Kd.V_reads' HO137.out).2.1); (case side3 => repeat (first | exact (Kd.C_below HR0.out HB.out) | (with_reducible refine Kd.C_alloc ?_ _) | (with_reducible refine Kd.C_drewN ?_ _) | (with_reducible refine Kd.C_drew ?_))); (case side4 => exact HC0.out); rintro e w' ⟨rfl, ⟨nd, rfl⟩⟩))
          go_ret
          exact ⟨by first | rfl | (simp [errW_none, errW_some] <;> rfl) | (simp [*, errW_none, errW_some] <;> rfl) | (exfalso; simp only [decide_eq_true_eq, decide_eq_false_iff_not, beq_iff_eq, bne_iff_ne, ne_eq, beq_eq_false_iff_ne, bne_eq_false_iff_eq] at *; omega), by repeat (first | (with_reducible first | exact HB.out | apply below_alloc | apply pw_below_drewN | apply below_drew1) | exact HB.out)⟩
        · rw [if_neg c24] at H
          exact absurd ((Option.some.inj H).trans hT_.out) (by decide)
      · replace c23 := Bool.eq_false_iff.mpr c23
        subst c23
        have H1 : (some false) = some r := by rw [if_neg (show ¬ (false = true) by decide)] at H; exact H
        clear H
        have H := H1
        clear H1
        exact absurd ((Option.some.inj H).trans hT_.out) (by decide)
    · replace c21 := Bool.eq_false_iff.mpr c21
      subst c21
      have H1 : (some false) = some r := by rw [if_neg (show ¬ (false = true) by decide)] at H; exact H
      clear H
      have H := H1
      clear H1
      exact absurd ((Option.some.inj H).trans hT_.out) (by decide)

/-- THE ONE PURE STATEMENT of interchangelaw14_LineFull: yours. -/
def interchangelaw14_LineFull.Pure : Prop := ∀ (l0 : List Int) (a1 : Int) (a2 : Int), l0.length ≤ maxLen → l0.length * 8 ≤ 140737488351232 → (∀ x ∈ l0, (Lit.int .i64 x).wf = true) → (Lit.int .i64 a1).wf = true → (Lit.int .i64 a2).wf = true → ∃ k, interchangelaw14_LineFull.f k l0 a1 a2 = some true
theorem interchangelaw14_LineFull.walk (P : interchangelaw14_LineFull.Pure) (a0 : Option Addr) (len0 cap0 : Nat) (z0 : List Int) (a1 : Int) (a2 : Int) (w : World) (w0 : (a0 = none ∧ len0 = 0 ∧ cap0 = 0 ∧ z0 = []) ∨ ∃ x, a0 = some x ∧ len0 ≤ cap0 ∧ cap0 ≤ maxLen ∧ z0.length = cap0 ∧ (∀ i, i < z0.length → w.cell? (x.add i) = some (.int .i64 (z0.getD i 0))) ∧ ∀ n ∈ z0, (Lit.int .i64 n).wf = true) (y0 : len0 * 8 ≤ 140737488351232) (w1 : (Lit.int .i64 a1).wf = true) (w2 : (Lit.int .i64 a2).wf = true) :
    Calls Try.prog 4 #[.slice a0 len0 cap0, .int .i64 a1, .int .i64 a2] w fun e w' => e = .returned (.bool true) ∧ Below w.heap.size w w' := by
  obtain ⟨l0, rfl, hr0, hm0, hw0, hc0⟩ := ReadsInt.ofRowC w0
  obtain ⟨k, h⟩ := P l0 a1 a2 hm0 y0 hw0 w1 w2
  refine (interchangelaw14_LineFull.calls k _ _ l0 a1 a2 true w (Kd.C_of_reads (d := (0 : Int)) (h1 := fun _ => rfl) hr0) hc0 ⟨rfl⟩ h).mono ?_
  rintro e w' ⟨rfl, hd⟩
  exact ⟨rfl, hd⟩

end Go.Proofs.Ytpfaidejbnbelaa.Q
