/- This text was written by a program of this session: what each Go function computes, as a Lean function, and that its call does so. -/
import Derived.Test.YtobdcmgdodahgaaDoorQ0
import Derived.Test.YtobdcmgdodahgaaDoorQ9
import Derived.Test.YtobdcmgdodahgaaDoorH9
import Derived.Test.YtobdcmgdodahgaaDoorH37
namespace Go.Proofs.YtobdcmgdodahgaaDoor.Q
open Go.RowKit Go.Proofs.YtobdcmgdodahgaaDoorW.PrintWords Go.Proofs.YtobdcmgdodahgaaDoorW.PrintLast Go.Proofs.YtobdcmgdodahgaaDoorW.PrintMore
attribute [local go_sem] max2_int min2_int max_two min_two max_three min_three max_four min_four   -- for this text's walks alone
set_option linter.unusedVariables false
set_option linter.unusedSimpArgs false

/-! ### interchangelaw17_NamesLong: function 6 -/
mutual
def interchangelaw17_NamesLong.j0 : Nat → Int → ByteArray → Bool → ByteArray → Int → Bool → Option (Bool)
  | 0, _, _, _, _, _, _ => none
  | k + 1, x0, x1, x5, x6, x7, x22 => if x22 = true then (if x5 = true then (if x7 = 1 then (some (x6.toList == ([] : List UInt8))) else (some false)) else (some false)) else (interchangelaw17_NamesLong.l0 k x1 x5 x6 x7 0 x0)
def interchangelaw17_NamesLong.l0 : Nat → ByteArray → Bool → ByteArray → Int → Int → Int → Option (Bool)
  | 0, _, _, _, _, _, _ => none
  | k + 1, x1, x5, x6, x7, x8, x9 => if x9 > 0 then (interchangelaw17_NamesLong.l0 k x1 x5 x6 x7 (wrap64 (x8 + 1)) (wrap64 (Int.tdiv x9 10))) else (if x7 = 0 then (if x5 = true then (if (x6.size : Int) = (wrap64 ((wrap64 (x8 + 1)) + (x1.size : Int))) then (if (x6.size : Int) ≤ 255 then (if 0 ≤ x8 then (if x8 < (x6.size : Int) then (if (bt x6 x8) = 47 then (if 0 ≤ (wrap64 (x8 + 1)) then (if (wrap64 (x8 + 1)) ≤ (x6.size : Int) then (some ((x6.extract ((wrap64 (x8 + 1)) : Int).toNat x6.size).toList == x1.toList)) else (none)) else (none)) else (some false)) else (none)) else (none)) else (some false)) else (some false)) else (some false)) else (if x5 = true then (if x7 = 4 then (some (decide ((wrap64 ((wrap64 (x8 + 1)) + (x1.size : Int))) > 255))) else (some false)) else (some false)))
end
def interchangelaw17_NamesLong.f (k : Nat) (a0 : Int) (a1 : ByteArray) : Option (Bool) := (interchangelaw17_shown.f).bind fun t222 => ((names_Up.f a0 a1).bind fun bt223 => (if a0 < 1 then (interchangelaw17_NamesLong.j0 k a0 a1 true bt223.1 bt223.2 true) else (interchangelaw17_NamesLong.j0 k a0 a1 true bt223.1 bt223.2 (a1.toList == ([] : List UInt8)))))
theorem interchangelaw17_NamesLong.mono_l : ∀ k, (∀ y0 y1 y2 y3 y4 y5, LeO (interchangelaw17_NamesLong.j0 k y0 y1 y2 y3 y4 y5) (interchangelaw17_NamesLong.j0 (k + 1) y0 y1 y2 y3 y4 y5)) ∧ (∀ y0 y1 y2 y3 y4 y5, LeO (interchangelaw17_NamesLong.l0 k y0 y1 y2 y3 y4 y5) (interchangelaw17_NamesLong.l0 (k + 1) y0 y1 y2 y3 y4 y5))
  | 0 => ⟨fun _ _ _ _ _ _ r h => by simp [interchangelaw17_NamesLong.j0] at h, fun _ _ _ _ _ _ r h => by simp [interchangelaw17_NamesLong.l0] at h⟩
  | k + 1 => by
    obtain ⟨ih0, ih1⟩ := interchangelaw17_NamesLong.mono_l k
    refine ⟨?_, ?_⟩
    · intro y0 y1 y2 y3 y4 y5
      unfold interchangelaw17_NamesLong.j0
      repeat' first
      | (with_reducible exact ih0 _ _ _ _ _ _)
      | (with_reducible exact ih1 _ _ _ _ _ _)
      | (with_reducible exact LeO.refl _)
      | (with_reducible exact LeO.none _)
      | (with_reducible refine LeO.ite ?_ ?_)
      | (with_reducible refine LeO.bind ?_ (fun _ => ?_))
      | exact ih0 _ _ _ _ _ _
      | exact ih1 _ _ _ _ _ _
      | exact LeO.none _
      | refine LeO.ite ?_ ?_
      | refine LeO.bind ?_ (fun _ => ?_)
    · intro y0 y1 y2 y3 y4 y5
      unfold interchangelaw17_NamesLong.l0
      repeat' first
      | (with_reducible exact ih0 _ _ _ _ _ _)
      | (with_reducible exact ih1 _ _ _ _ _ _)
      | (with_reducible exact LeO.refl _)
      | (with_reducible exact LeO.none _)
      | (with_reducible refine LeO.ite ?_ ?_)
      | (with_reducible refine LeO.bind ?_ (fun _ => ?_))
      | exact ih0 _ _ _ _ _ _
      | exact ih1 _ _ _ _ _ _
      | exact LeO.none _
      | refine LeO.ite ?_ ?_
      | refine LeO.bind ?_ (fun _ => ?_)
theorem interchangelaw17_NamesLong.mono : ∀ a0 a1 k, LeO (interchangelaw17_NamesLong.f k a0 a1) (interchangelaw17_NamesLong.f (k + 1) a0 a1) := by
  intro a0 a1 k
  obtain ⟨ih0, ih1⟩ := interchangelaw17_NamesLong.mono_l k
  unfold interchangelaw17_NamesLong.f
  repeat' first
      | (with_reducible exact ih0 _ _ _ _ _ _)
      | (with_reducible exact ih1 _ _ _ _ _ _)
      | (with_reducible exact LeO.refl _)
      | (with_reducible exact LeO.none _)
      | (with_reducible refine LeO.ite ?_ ?_)
      | (with_reducible refine LeO.bind ?_ (fun _ => ?_))
      | exact ih0 _ _ _ _ _ _
      | exact ih1 _ _ _ _ _ _
      | exact LeO.none _
      | refine LeO.ite ?_ ?_
      | refine LeO.bind ?_ (fun _ => ?_)
set_option maxHeartbeats 8000000 in
set_option maxRecDepth 100000 in
theorem interchangelaw17_NamesLong.calls (k : Nat) (a0 : Int) (a1 : ByteArray) (r : Bool) (w : World) (hT_ : Aside0 (r = true)) (hTB : Aside0 (Tabs w)) (h : interchangelaw17_NamesLong.f k a0 a1 = some r) :
    Calls Tryd.prog 6 #[.int .i64 a0, .string a1] w fun e w' => e = .returned (.bool r) ∧ Below w.heap.size w w' := by
  have HB := Aside0.mk (Below.refl w.heap.size w)
  have H : ((interchangelaw17_shown.f).bind fun t222 => ((names_Up.f a0 a1).bind fun bt223 => (if a0 < 1 then (interchangelaw17_NamesLong.j0 k a0 a1 true bt223.1 bt223.2 true) else (interchangelaw17_NamesLong.j0 k a0 a1 true bt223.1 bt223.2 (a1.toList == ([] : List UInt8)))))) = some r := h
  clear h
  replace H := Option.bind_eq_some_iff.mp H
  obtain ⟨t222, A30, H⟩ := H
  replace H : ((names_Up.f a0 a1).bind fun bt223 => (if a0 < 1 then (interchangelaw17_NamesLong.j0 k a0 a1 true bt223.1 bt223.2 true) else (interchangelaw17_NamesLong.j0 k a0 a1 true bt223.1 bt223.2 (a1.toList == ([] : List UInt8))))) = some r := H
  obtain rfl : true = t222 := Option.some.inj (interchangelaw17_shown_true.symm.trans A30)
  have A3 := Aside0.mk A30
  clear A30
  replace H := Option.bind_eq_some_iff.mp H
  obtain ⟨⟨t223, t224⟩, A40, H⟩ := H
  replace H : (if a0 < 1 then (interchangelaw17_NamesLong.j0 k a0 a1 true t223 t224 true) else (interchangelaw17_NamesLong.j0 k a0 a1 true t223 t224 (a1.toList == ([] : List UInt8)))) = some r := H
  have A4 := Aside0.mk A40
  clear A40
  have HC5 := Aside0.mk H
  clear H
  go_enter Tryd.func6, Tryd.ntmps6
  go_upto_region 3 with (first | ((with_reducible refine gate_callee (f := 9) rfl ?_); refine goesL_ (some 10) rfl rfl Tryd.func9 (by kernel_rfl) rfl #[] rfl (by (try simp only [List.map_toArray, List.map_cons, List.map_nil]); first | done | rfl | (simp only [List.length_drop, List.length_take]; rfl)) ?_; (with_reducible refine (interchangelaw17_shown.calls true _ ⟨rfl⟩ ⟨hTB.out.below (by repeat (first | (with_reducible first | exact HB.out | apply below_alloc | apply pw_below_drewN | apply below_drew1) | exact HB.out))⟩ A3.out).mono ?_); rintro e w6 ⟨rfl, hb⟩; refine ⟨_, rfl, ?_⟩; have n0_ := Aside0.mk (below_step (by repeat (first | (with_reducible first | exact HB.out | apply below_alloc | apply pw_below_drewN | apply below_drew1) | exact HB.out)) hb); clear HB; have HB := n0_; clear n0_; (try clear hb); (try clear hb2); (try clear hk); (try clear hi)) | ((with_reducible refine gate_callee (f := 16) rfl ?_); refine goesL_ (some 14) rfl rfl Tryd.func16 (by kernel_rfl) rfl #[.int .i64 a0, .string a1] rfl (by (try simp only [List.map_toArray, List.map_cons, List.map_nil]); first | done | rfl | (simp only [List.length_drop, List.length_take]; rfl)) ?_; (with_reducible refine (names_Up.calls a0 a1 t223 t224 _ ⟨hTB.out.below (by repeat (first | (with_reducible first | exact HB.out | apply below_alloc | apply pw_below_drewN | apply below_drew1) | exact HB.out))⟩ A4.out).mono ?_); rintro e w7 ⟨rfl, hb⟩; refine ⟨_, rfl, ?_⟩; have n0_ := Aside0.mk (below_step (by repeat (first | (with_reducible first | exact HB.out | apply below_alloc | apply pw_below_drewN | apply below_drew1) | exact HB.out)) hb); clear HB; have HB := n0_; clear n0_; (try clear hb); (try clear hb2); (try clear hk); (try clear hi)))
  (try simp only [Act.put, List.setIfInBounds_toArray, List.set_cons_zero, List.set_cons_succ])
  go_cut [22] (fun v22 wc => ∃ (kq : Nat) (x22_4 : Bool), v22 = .bool x22_4 ∧ Aside0 (interchangelaw17_NamesLong.j0 kq a0 a1 true t223 t224 x22_4 = some r) ∧ Aside0 (kq ≤ k) ∧ Aside0 (Below w.heap.size w wc))
  case first =>
    have H := HC5.out
    clear HC5
    by_cases c8 : a0 < 1
    · rw [if_pos c8] at H
      have c8b0 : decide (a0 < 1) = true := decide_eq_true c8
      clear c8
      (first | rw [c8b0] | (simp only [i64_w, i32_w]; rw [c8b0]) | skip)
      have H' := Aside0.mk H
      clear H
      go_wp2
      go_meet
      case rel => exact ⟨_, (true), (by first | rfl | (simp; done) | (simp [*]; done)), H', ⟨by first | omega | exact Nat.le_refl _⟩, ⟨by repeat (first | (with_reducible first | exact HB.out | apply below_alloc | apply pw_below_drewN | apply below_drew1) | exact HB.out)⟩⟩
    · rw [if_neg c8] at H
      have c8b0 : decide (a0 < 1) = false := decide_eq_false c8
      clear c8
      (first | rw [c8b0] | (simp only [i64_w, i32_w]; rw [c8b0]) | skip)
      have H' := Aside0.mk H
      clear H
      go_wp2
      go_meet
      case rel => exact ⟨_, ((a1.toList == ([] : List UInt8))), (by first | rfl | (simp; done) | (simp [*]; done)), H', ⟨by first | omega | exact Nat.le_refl _⟩, ⟨by repeat (first | (with_reducible first | exact HB.out | apply below_alloc | apply pw_below_drewN | apply below_drew1) | exact HB.out)⟩⟩
  case rest =>
    clear HC5
    try clear c1
    try clear p2
    try clear c6
    try clear c8
    try clear c8b0
    obtain ⟨kq, x22_4, rfl, HA, HJ4, HB⟩ := hcut
    cases kq with
    | zero => exact absurd HA.out (by simp [interchangelaw17_NamesLong.j0])
    | succ kj4 =>
      have H := HA.out
      clear HA
      simp only [interchangelaw17_NamesLong.j0] at H
      by_cases c9 : x22_4 = true
      · subst c9
        have H1 : (if true = true then (if t224 = 1 then (some (t223.toList == ([] : List UInt8))) else (some false)) else (some false)) = some r := by rw [if_pos rfl] at H; exact H
        clear H
        have H := H1
        clear H1
        have c10 : true = true := rfl
        · clear c10
          have H1 : (if t224 = 1 then (some (t223.toList == ([] : List UInt8))) else (some false)) = some r := by first | (rw [if_pos rfl] at H; exact H) | (rw [if_pos trivial] at H; exact H)
          clear H
          have H := H1
          clear H1
          by_cases c11 : t224 = 1
          · rw [if_pos c11] at H
            have c11b0 : (t224 == 1) = true := beq_iff_eq.mpr c11
            have c11b1 : (t224 != 1) = false := bne_eq_false_iff_eq.mpr c11
            clear c11
            replace H : (if t223.toList = ([] : List UInt8) then (some true) else (some false)) = some r := by
              rw [← H]
              by_cases hc_ : t223.toList = ([] : List UInt8)
              · rw [if_pos hc_]; exact congrArg some (Eq.symm (by first | exact decide_eq_true hc_ | exact beq_iff_eq.mpr hc_ | exact hc_ | (simp [hc_]; done) | simp_all))
              · rw [if_neg hc_]; exact congrArg some (Eq.symm (by first | exact decide_eq_false hc_ | exact beq_eq_false_iff_ne.mpr hc_ | exact Bool.eq_false_iff.mpr hc_ | (simp [hc_]; done) | simp_all))
            by_cases c12 : t223.toList = ([] : List UInt8)
            · rw [if_pos c12] at H
              have c12b0 : (t223.toList == ([] : List UInt8)) = true := beq_iff_eq.mpr c12
              have c12b1 : (t223.toList != ([] : List UInt8)) = false := bne_eq_false_iff_eq.mpr c12
              clear c12
              obtain rfl := Option.some.inj H
              go_wp2
              go_ret
              exact ⟨by first | rfl | (simp [errW_none, errW_some] <;> rfl) | (simp [*, errW_none, errW_some] <;> rfl) | (exfalso; simp only [decide_eq_true_eq, decide_eq_false_iff_not, beq_iff_eq, bne_iff_ne, ne_eq, beq_eq_false_iff_ne, bne_eq_false_iff_eq] at *; omega), by repeat (first | (with_reducible first | exact HB.out | apply below_alloc | apply pw_below_drewN | apply below_drew1) | exact HB.out)⟩
            · rw [if_neg c12] at H
              exact absurd ((Option.some.inj H).trans hT_.out) (by decide)
          · rw [if_neg c11] at H
            exact absurd ((Option.some.inj H).trans hT_.out) (by decide)
      · replace c9 := Bool.eq_false_iff.mpr c9
        subst c9
        have H1 : (interchangelaw17_NamesLong.l0 kj4 a1 true t223 t224 0 a0) = some r := by rw [if_neg (show ¬ (false = true) by decide)] at H; exact H
        clear H
        have H := H1
        clear H1
        have H' := Aside0.mk H
        clear H
        go_wp2
        go_loopg [8, 9] kj4 (fun kq v8 v9 w' => ∃ (x8_2 : Int) (x9_2 : Int), v8 = .int .i64 x8_2 ∧ v9 = .int .i64 x9_2 ∧ Aside0 (interchangelaw17_NamesLong.l0 kq a1 true t223 t224 x8_2 x9_2 = some r) ∧ Aside0 (kq ≤ kj4) ∧ Aside0 (Below w.heap.size w w'))
        case atStart => exact ⟨(0), (a0), (by first | rfl | (simp; done) | (simp [*]; done)), (by first | rfl | (simp; done) | (simp [*]; done)), H', ⟨Nat.le_refl _⟩, ⟨by repeat (first | (with_reducible first | exact HB.out | apply below_alloc | apply pw_below_drewN | apply below_drew1) | exact HB.out)⟩⟩
        case round =>
          clear H'
          try clear c1
          try clear p2
          try clear c6
          try clear c8
          try clear c8b0
          try clear c9
          try clear c10
          try clear c11
          try clear c11b0
          try clear c11b1
          try clear c12
          try clear c12b0
          try clear c12b1
          try clear p2
          obtain ⟨x8_2, x9_2, rfl, rfl, HA, HK2, HB⟩ := hrel
          cases gk with
          | zero => exact absurd HA.out (by simp [interchangelaw17_NamesLong.l0])
          | succ k2 =>
            have H := HA.out
            clear HA
            simp only [interchangelaw17_NamesLong.l0] at H
            by_cases c13 : x9_2 > 0
            · rw [if_pos c13] at H
              have c13b0 : decide (0 < x9_2) = true := decide_eq_true c13
              clear c13
              have H' := Aside0.mk H
              clear H
              go_wp2
              go_roundg k2
              case measure => have := HJ4.out; have := HK2.out; omega
              case rel => exact ⟨(wrap64 (x8_2 + 1)), (wrap64 (Int.tdiv x9_2 10)), (by first | rfl | (simp; done) | (simp [*]; done)), (by first | rfl | (simp; done) | (simp [*]; done)), H', ⟨by have := HJ4.out; have := HK2.out; omega⟩, ⟨by repeat (first | (with_reducible first | exact HB.out | apply below_alloc | apply pw_below_drewN | apply below_drew1) | exact HB.out)⟩⟩
            · rw [if_neg c13] at H
              have c13b0 : decide (0 < x9_2) = false := decide_eq_false c13
              clear c13
              by_cases c14 : t224 = 0
              · rw [if_pos c14] at H
                have c14b0 : (t224 == 0) = true := beq_iff_eq.mpr c14
                have c14b1 : (t224 != 0) = false := bne_eq_false_iff_eq.mpr c14
                clear c14
                have c15 : true = true := rfl
                · clear c15
                  have H1 : (if (t223.size : Int) = (wrap64 ((wrap64 (x8_2 + 1)) + (a1.size : Int))) then (if (t223.size : Int) ≤ 255 then (if 0 ≤ x8_2 then (if x8_2 < (t223.size : Int) then (if (bt t223 x8_2) = 47 then (if 0 ≤ (wrap64 (x8_2 + 1)) then (if (wrap64 (x8_2 + 1)) ≤ (t223.size : Int) then (some ((t223.extract ((wrap64 (x8_2 + 1)) : Int).toNat t223.size).toList == a1.toList)) else (none)) else (none)) else (some false)) else (none)) else (none)) else (some false)) else (some false)) = some r := by first | (rw [if_pos rfl] at H; exact H) | (rw [if_pos trivial] at H; exact H)
                  clear H
                  have H := H1
                  clear H1
                  by_cases c16 : (t223.size : Int) = (wrap64 ((wrap64 (x8_2 + 1)) + (a1.size : Int)))
                  · rw [if_pos c16] at H
                    have c16b0 : ((t223.size : Int) == (wrap64 ((wrap64 (x8_2 + 1)) + (a1.size : Int)))) = true := beq_iff_eq.mpr c16
                    have c16b1 : ((t223.size : Int) != (wrap64 ((wrap64 (x8_2 + 1)) + (a1.size : Int)))) = false := bne_eq_false_iff_eq.mpr c16
                    clear c16
                    by_cases c17 : (t223.size : Int) ≤ 255
                    · rw [if_pos c17] at H
                      have c17b0 : decide ((t223.size : Int) ≤ 255) = true := decide_eq_true c17
                      have c17b1 : decide (t223.size ≤ 255) = true := decide_eq_true (by omega)
                      clear c17
                      by_cases c18 : 0 ≤ x8_2
                      · rw [if_pos c18] at H
                        have c18b0 : decide (0 ≤ x8_2) = true := decide_eq_true c18
                        clear c18
                        by_cases c19 : x8_2 < (t223.size : Int)
                        · rw [if_pos c19] at H
                          have c19b0 : decide (x8_2 < (t223.size : Int)) = true := decide_eq_true c19
                          clear c19
                          by_cases c21 : (bt t223 x8_2) = 47
                          · rw [if_pos c21] at H
                            have c21b0 : ((bt t223 x8_2) == 47) = true := beq_iff_eq.mpr c21
                            have c21b1 : ((bt t223 x8_2) != 47) = false := bne_eq_false_iff_eq.mpr c21
                            clear c21
                            obtain ⟨ji22, hji22⟩ : ∃ j_ : Int, (wrap64 (x8_2 + 1)) = j_ := ⟨_, rfl⟩
                            replace H : (if 0 ≤ (ji22) then (if (ji22) ≤ (t223.size : Int) then (some ((t223.extract ((ji22) : Int).toNat t223.size).toList == a1.toList)) else (none)) else (none)) = some r := by first | (rw [hji22] at H; exact H) | (simp only [hji22] at H ⊢; exact H)
                            (try rw [hji22] at c16b0)
                            (try rw [hji22] at c16b1)
                            have hji22w : (IntKind.i64.wrap (x8_2 + 1)) = ji22 := (i64_w _).trans hji22
                            by_cases c23 : 0 ≤ (ji22)
                            · rw [if_pos c23] at H
                              have c23b0 := eq_true c23
                              have c23b1 : decide (0 ≤ (ji22)) = true := decide_eq_true c23
                              clear c23
                              by_cases c24 : (ji22) ≤ (t223.size : Int)
                              · rw [if_pos c24] at H
                                have c24b0 := eq_true c24
                                have c24b1 : decide ((ji22) ≤ (t223.size : Int)) = true := decide_eq_true c24
                                clear c24
                                replace H : (if (t223.extract ((ji22) : Int).toNat t223.size).toList = a1.toList then (some true) else (some false)) = some r := by
                                  rw [← H]
                                  by_cases hc_ : (t223.extract ((ji22) : Int).toNat t223.size).toList = a1.toList
                                  · rw [if_pos hc_]; exact congrArg some (Eq.symm (by first | exact decide_eq_true hc_ | exact beq_iff_eq.mpr hc_ | exact hc_ | (simp [hc_]; done) | simp_all))
                                  · rw [if_neg hc_]; exact congrArg some (Eq.symm (by first | exact decide_eq_false hc_ | exact beq_eq_false_iff_ne.mpr hc_ | exact Bool.eq_false_iff.mpr hc_ | (simp [hc_]; done) | simp_all))
                                by_cases c25 : (t223.extract ((ji22) : Int).toNat t223.size).toList = a1.toList
                                · rw [if_pos c25] at H
                                  have c25b0 : ((t223.extract ((ji22) : Int).toNat t223.size).toList == a1.toList) = true := beq_iff_eq.mpr c25
                                  have c25b1 : ((t223.extract ((ji22) : Int).toNat t223.size).toList != a1.toList) = false := bne_eq_false_iff_eq.mpr c25
                                  clear c25
                                  obtain rfl := Option.some.inj H
                                  have p20 : 0 ≤ (x8_2 : Int) := of_decide_eq_true (by first | (with_reducible assumption) | assumption)
                                  have q20 : x8_2 < (t223.size : Int) := of_decide_eq_true (by first | (with_reducible assumption) | assumption)
                                  have hx20 := bt_at t223 x8_2
                                  replace p20 := eq_true p20
                                  replace q20 := eq_true q20
                                  go_wp2
                                  go_ret
                                  exact ⟨by first | rfl | (simp [errW_none, errW_some] <;> rfl) | (simp only [← hji22]; first | rfl | (simp [errW_none, errW_some] <;> rfl)) | (simp [*, errW_none, errW_some] <;> rfl) | (exfalso; simp only [decide_eq_true_eq, decide_eq_false_iff_not, beq_iff_eq, bne_iff_ne, ne_eq, beq_eq_false_iff_ne, bne_eq_false_iff_eq] at *; omega), by repeat (first | (with_reducible first | exact HB.out | apply below_alloc | apply pw_below_drewN | apply below_drew1) | exact HB.out)⟩
                                · rw [if_neg c25] at H
                                  exact absurd ((Option.some.inj H).trans hT_.out) (by decide)
                              · rw [if_neg c24] at H
                                exact absurd H (by simp)
                            · rw [if_neg c23] at H
                              exact absurd H (by simp)
                          · rw [if_neg c21] at H
                            exact absurd ((Option.some.inj H).trans hT_.out) (by decide)
                        · rw [if_neg c19] at H
                          exact absurd H (by simp)
                      · rw [if_neg c18] at H
                        exact absurd H (by simp)
                    · rw [if_neg c17] at H
                      exact absurd ((Option.some.inj H).trans hT_.out) (by decide)
                  · rw [if_neg c16] at H
                    exact absurd ((Option.some.inj H).trans hT_.out) (by decide)
              · rw [if_neg c14] at H
                have c14b0 : (t224 == 0) = false := beq_eq_false_iff_ne.mpr c14
                have c14b1 : (t224 != 0) = true := bne_iff_ne.mpr c14
                have c26 : true = true := rfl
                · clear c26
                  have H1 : (if t224 = 4 then (some (decide ((wrap64 ((wrap64 (x8_2 + 1)) + (a1.size : Int))) > 255))) else (some false)) = some r := by first | (rw [if_pos rfl] at H; exact H) | (rw [if_pos trivial] at H; exact H)
                  clear H
                  have H := H1
                  clear H1
                  by_cases c27 : t224 = 4
                  · rw [if_pos c27] at H
                    have c27b0 : (t224 == 4) = true := beq_iff_eq.mpr c27
                    have c27b1 : (t224 != 4) = false := bne_eq_false_iff_eq.mpr c27
                    clear c27
                    replace H : (if (wrap64 ((wrap64 (x8_2 + 1)) + (a1.size : Int))) > 255 then (some true) else (some false)) = some r := by
                      rw [← H]
                      by_cases hc_ : (wrap64 ((wrap64 (x8_2 + 1)) + (a1.size : Int))) > 255
                      · rw [if_pos hc_]; exact congrArg some (Eq.symm (by first | exact decide_eq_true hc_ | exact beq_iff_eq.mpr hc_ | exact hc_ | (simp [hc_]; done) | simp_all))
                      · rw [if_neg hc_]; exact congrArg some (Eq.symm (by first | exact decide_eq_false hc_ | exact beq_eq_false_iff_ne.mpr hc_ | exact Bool.eq_false_iff.mpr hc_ | (simp [hc_]; done) | simp_all))
                    by_cases c28 : (wrap64 ((wrap64 (x8_2 + 1)) + (a1.size : Int))) > 255
                    · rw [if_pos c28] at H
                      have c28b0 : decide (255 < (wrap64 ((wrap64 (x8_2 + 1)) + (a1.size : Int)))) = true := decide_eq_true c28
                      clear c28
                      obtain rfl := Option.some.inj H
                      go_wp2
                      go_ret
                      exact ⟨by first | rfl | (simp [errW_none, errW_some] <;> rfl) | (simp [*, errW_none, errW_some] <;> rfl) | (exfalso; simp only [decide_eq_true_eq, decide_eq_false_iff_not, beq_iff_eq, bne_iff_ne, ne_eq, beq_eq_false_iff_ne, bne_eq_false_iff_eq] at *; omega), by repeat (first | (with_reducible first | exact HB.out | apply below_alloc | apply pw_below_drewN | apply below_drew1) | exact HB.out)⟩
                    · rw [if_neg c28] at H
                      exact absurd ((Option.some.inj H).trans hT_.out) (by decide)
                  · rw [if_neg c27] at H
                    exact absurd ((Option.some.inj H).trans hT_.out) (by decide)
/-- THE ONE PURE STATEMENT of interchangelaw17_NamesLong: yours. -/
def interchangelaw17_NamesLong.Pure : Prop := ∀ (a0 : Int) (a1 : ByteArray), (Lit.int .i64 a0).wf = true → a1.size ≤ 140737488351232 → ∃ k, interchangelaw17_NamesLong.f k a0 a1 = some true
theorem interchangelaw17_NamesLong.walk (P : interchangelaw17_NamesLong.Pure) (a0 : Int) (a1 : ByteArray) (w : World) (w0 : (Lit.int .i64 a0).wf = true) (w1 : a1.size ≤ 140737488351232) (hTB : Tabs w) :
    Calls Tryd.prog 6 #[.int .i64 a0, .string a1] w fun e w' => e = .returned (.bool true) ∧ Below w.heap.size w w' := by
  obtain ⟨k, h⟩ := P a0 a1 w0 w1
  refine (interchangelaw17_NamesLong.calls k a0 a1 true w ⟨rfl⟩ ⟨hTB⟩ h).mono ?_
  rintro e w' ⟨rfl, hd⟩
  exact ⟨rfl, hd⟩

end Go.Proofs.YtobdcmgdodahgaaDoor.Q
