/- This text was written by a program of this session: what each Go function computes, as a Lean function, and that its call does so. -/
import Derived.Test.YtngbkagamhakiaaQ0
import Derived.Test.YtngbkagamhakiaaQ10
import Derived.Test.YtngbkagamhakiaaQ9
import Derived.Test.YtngbkagamhakiaaH9
import Derived.Test.YtngbkagamhakiaaH11
import Derived.Test.YtngbkagamhakiaaH12
namespace Go.Proofs.Ytngbkagamhakiaa.Q
open Go.RowKit Go.Proofs.YtngbkagamhakiaaW.PrintWords Go.Proofs.YtngbkagamhakiaaW.PrintLast Go.Proofs.YtngbkagamhakiaaW.PrintMore
attribute [local go_sem] max2_int min2_int max_two min_two max_three min_three max_four min_four   -- for this text's walks alone
set_option linter.unusedVariables false
set_option linter.unusedSimpArgs false

/-! ### interchangelaw16_SeqRises: function 3 -/
mutual
def interchangelaw16_SeqRises.j0 : Nat → Int → Int → Int → Bool → Bool → Option (Bool)
  | 0, _, _, _, _, _ => none
  | k + 1, x0, x1, x2, x7, x30 => if x30 = true then (some x7) else ((seq_Select.f false 0 0 ([] : List Int) x0).bind fun bt143 => (interchangelaw16_SeqRises.l0 k x0 x1 x2 x7 bt143.2.2.2.2 1 bt143.1 bt143.2.1 bt143.2.2.1 bt143.2.2.2.1))
def interchangelaw16_SeqRises.l0 : Nat → Int → Int → Int → Bool → Int → Int → Bool → Int → Int → List Int → Option (Bool)
  | 0, _, _, _, _, _, _, _, _, _, _ => none
  | k + 1, x0, x1, x2, x7, x9, x10, x151000, x151001, x151002, x151003 => if x10 ≤ x1 then ((seq_Publish.f x151000 x151001 x151002 x151003 500).bind fun bt151 => (if bt151.2.2.2.2.2 = 0 then (if bt151.2.2.2.2.1 = (IntKind.u64.wrap (x10)) then (interchangelaw16_SeqRises.l0 k x0 x1 x2 x7 x9 (wrap64 (x10 + 1)) bt151.1 bt151.2.1 bt151.2.2.1 bt151.2.2.2.1) else (some false)) else (some false))) else (if x9 = 0 then (if x2 < 1 then (interchangelaw16_SeqRises.j2 k x0 x2 x7 x9 true x151000 x151001 x151002 x151003) else (interchangelaw16_SeqRises.j2 k x0 x2 x7 x9 (decide (x2 > x1)) x151000 x151001 x151002 x151003)) else (interchangelaw16_SeqRises.j2 k x0 x2 x7 x9 true x151000 x151001 x151002 x151003))
def interchangelaw16_SeqRises.j2 : Nat → Int → Int → Bool → Int → Bool → Bool → Int → Int → List Int → Option (Bool)
  | 0, _, _, _, _, _, _, _, _, _ => none
  | k + 1, x0, x2, x7, x9, x68, x151000, x151001, x151002, x151003 => if x68 = true then (if x7 = true then (some (x9 == 0)) else (some false)) else ((seq_Confirm.f x151000 x151001 x151002 x151003 (IntKind.u64.wrap (x0 + (IntKind.u64.wrap (x2)))) false).bind fun bt160 => ((seq_Confirm.f x151000 x151001 x151002 x151003 (IntKind.u64.wrap (x0 + (IntKind.u64.wrap (x2)))) true).bind fun bt171 => (if x7 = true then (if bt160.2.2.2.2.2 = 0 then (if (bt160.2.2.2.2.1.length : Int) = 1 then (if 0 < (bt160.2.2.2.2.1.length : Int) then (if (rd bt160.2.2.2.2.1 0) = (IntKind.u64.wrap (x2)) then (if bt171.2.2.2.2.2 = 0 then (some ((bt171.2.2.2.2.1.length : Int) == x2)) else (some false)) else (some false)) else (none)) else (some false)) else (some false)) else (some false))))
end
def interchangelaw16_SeqRises.f (k : Nat) (a0 : Int) (a1 : Int) (a2 : Int) : Option (Bool) := (interchangelaw16_shown.f).bind fun t142 => (if a1 < 0 then (interchangelaw16_SeqRises.j0 k a0 a1 a2 true true) else (if a1 > 100 then (interchangelaw16_SeqRises.j0 k a0 a1 a2 true true) else (interchangelaw16_SeqRises.j0 k a0 a1 a2 true (decide (a0 > 9223372036854775808)))))
theorem interchangelaw16_SeqRises.mono_l : ∀ k, (∀ y0 y1 y2 y3 y4, LeO (interchangelaw16_SeqRises.j0 k y0 y1 y2 y3 y4) (interchangelaw16_SeqRises.j0 (k + 1) y0 y1 y2 y3 y4)) ∧ (∀ y0 y1 y2 y3 y4 y5 y6 y7 y8 y9, LeO (interchangelaw16_SeqRises.l0 k y0 y1 y2 y3 y4 y5 y6 y7 y8 y9) (interchangelaw16_SeqRises.l0 (k + 1) y0 y1 y2 y3 y4 y5 y6 y7 y8 y9)) ∧ (∀ y0 y1 y2 y3 y4 y5 y6 y7 y8, LeO (interchangelaw16_SeqRises.j2 k y0 y1 y2 y3 y4 y5 y6 y7 y8) (interchangelaw16_SeqRises.j2 (k + 1) y0 y1 y2 y3 y4 y5 y6 y7 y8))
  | 0 => ⟨fun _ _ _ _ _ r h => by simp [interchangelaw16_SeqRises.j0] at h, fun _ _ _ _ _ _ _ _ _ _ r h => by simp [interchangelaw16_SeqRises.l0] at h, fun _ _ _ _ _ _ _ _ _ r h => by simp [interchangelaw16_SeqRises.j2] at h⟩
  | k + 1 => by
    obtain ⟨ih0, ih1, ih2⟩ := interchangelaw16_SeqRises.mono_l k
    refine ⟨?_, ?_, ?_⟩
    · intro y0 y1 y2 y3 y4
      unfold interchangelaw16_SeqRises.j0
      repeat' first
      | (with_reducible exact ih0 _ _ _ _ _)
      | (with_reducible exact ih1 _ _ _ _ _ _ _ _ _ _)
      | (with_reducible exact ih2 _ _ _ _ _ _ _ _ _)
      | (with_reducible exact LeO.refl _)
      | (with_reducible exact LeO.none _)
      | (with_reducible refine LeO.ite ?_ ?_)
      | (with_reducible refine LeO.bind ?_ (fun _ => ?_))
      | exact ih0 _ _ _ _ _
      | exact ih1 _ _ _ _ _ _ _ _ _ _
      | exact ih2 _ _ _ _ _ _ _ _ _
      | exact LeO.none _
      | refine LeO.ite ?_ ?_
      | refine LeO.bind ?_ (fun _ => ?_)
    · intro y0 y1 y2 y3 y4 y5 y6 y7 y8 y9
      unfold interchangelaw16_SeqRises.l0
      repeat' first
      | (with_reducible exact ih0 _ _ _ _ _)
      | (with_reducible exact ih1 _ _ _ _ _ _ _ _ _ _)
      | (with_reducible exact ih2 _ _ _ _ _ _ _ _ _)
      | (with_reducible exact LeO.refl _)
      | (with_reducible exact LeO.none _)
      | (with_reducible refine LeO.ite ?_ ?_)
      | (with_reducible refine LeO.bind ?_ (fun _ => ?_))
      | exact ih0 _ _ _ _ _
      | exact ih1 _ _ _ _ _ _ _ _ _ _
      | exact ih2 _ _ _ _ _ _ _ _ _
      | exact LeO.none _
      | refine LeO.ite ?_ ?_
      | refine LeO.bind ?_ (fun _ => ?_)
    · intro y0 y1 y2 y3 y4 y5 y6 y7 y8
      unfold interchangelaw16_SeqRises.j2
      repeat' first
      | (with_reducible exact ih0 _ _ _ _ _)
      | (with_reducible exact ih1 _ _ _ _ _ _ _ _ _ _)
      | (with_reducible exact ih2 _ _ _ _ _ _ _ _ _)
      | (with_reducible exact LeO.refl _)
      | (with_reducible exact LeO.none _)
      | (with_reducible refine LeO.ite ?_ ?_)
      | (with_reducible refine LeO.bind ?_ (fun _ => ?_))
      | exact ih0 _ _ _ _ _
      | exact ih1 _ _ _ _ _ _ _ _ _ _
      | exact ih2 _ _ _ _ _ _ _ _ _
      | exact LeO.none _
      | refine LeO.ite ?_ ?_
      | refine LeO.bind ?_ (fun _ => ?_)
theorem interchangelaw16_SeqRises.mono : ∀ a0 a1 a2 k, LeO (interchangelaw16_SeqRises.f k a0 a1 a2) (interchangelaw16_SeqRises.f (k + 1) a0 a1 a2) := by
  intro a0 a1 a2 k
  obtain ⟨ih0, ih1, ih2⟩ := interchangelaw16_SeqRises.mono_l k
  unfold interchangelaw16_SeqRises.f
  repeat' first
      | (with_reducible exact ih0 _ _ _ _ _)
      | (with_reducible exact ih1 _ _ _ _ _ _ _ _ _ _)
      | (with_reducible exact ih2 _ _ _ _ _ _ _ _ _)
      | (with_reducible exact LeO.refl _)
      | (with_reducible exact LeO.none _)
      | (with_reducible refine LeO.ite ?_ ?_)
      | (with_reducible refine LeO.bind ?_ (fun _ => ?_))
      | exact ih0 _ _ _ _ _
      | exact ih1 _ _ _ _ _ _ _ _ _ _
      | exact ih2 _ _ _ _ _ _ _ _ _
      | exact LeO.none _
      | refine LeO.ite ?_ ?_
      | refine LeO.bind ?_ (fun _ => ?_)
set_option maxHeartbeats 8000000 in
set_option maxRecDepth 100000 in
theorem interchangelaw16_SeqRises.calls (k : Nat) (a0 : Int) (a1 : Int) (a2 : Int) (r : Bool) (w : World) (hT_ : Aside0 (r = true)) (h : interchangelaw16_SeqRises.f k a0 a1 a2 = some r) :
    Calls Try.prog 3 #[.int .u64 a0, .int .i64 a1, .int .i64 a2] w fun e w' => e = .returned (.bool r) ∧ Below w.heap.size w w' := by
  have hu26 := Try.underlying26
  have HB := Aside0.mk (Below.refl w.heap.size w)
  have H : ((interchangelaw16_shown.f).bind fun t142 => (if a1 < 0 then (interchangelaw16_SeqRises.j0 k a0 a1 a2 true true) else (if a1 > 100 then (interchangelaw16_SeqRises.j0 k a0 a1 a2 true true) else (interchangelaw16_SeqRises.j0 k a0 a1 a2 true (decide (a0 > 9223372036854775808)))))) = some r := h
  clear h
  replace H := Option.bind_eq_some_iff.mp H
  obtain ⟨t142, A40, H⟩ := H
  replace H : (if a1 < 0 then (interchangelaw16_SeqRises.j0 k a0 a1 a2 true true) else (if a1 > 100 then (interchangelaw16_SeqRises.j0 k a0 a1 a2 true true) else (interchangelaw16_SeqRises.j0 k a0 a1 a2 true (decide (a0 > 9223372036854775808))))) = some r := H
  obtain rfl : true = t142 := Option.some.inj (interchangelaw16_shown_true.symm.trans A40)
  have A4 := Aside0.mk A40
  clear A40
  have HC5 := Aside0.mk H
  clear H
  go_enter Try.func3, Try.ntmps3
  go_upto_region 2 with (first | ((with_reducible refine gate_callee (f := 9) rfl ?_); refine goesL_ (some 20) rfl rfl Try.func9 (by kernel_rfl) rfl #[] rfl (by (try simp only [List.map_toArray, List.map_cons, List.map_nil]); first | done | rfl | (simp only [List.length_drop, List.length_take]; rfl)) ?_; (with_reducible refine (interchangelaw16_shown.calls true _ ⟨rfl⟩ A4.out).mono ?_); rintro e w6 ⟨rfl, hb⟩; refine ⟨_, rfl, ?_⟩; have n0_ := Aside0.mk (below_step (by repeat (first | (with_reducible first | exact HB.out | apply below_alloc | apply pw_below_drewN | apply below_drew1) | exact HB.out)) hb); clear HB; have HB := n0_; clear n0_; (try clear hb); (try clear hb2); (try clear hk); (try clear hi)))
  (try simp only [Act.put, List.setIfInBounds_toArray, List.set_cons_zero, List.set_cons_succ])
  go_cut [30] (fun v30 wc => ∃ (kq : Nat) (x30_4 : Bool), v30 = .bool x30_4 ∧ Aside0 (interchangelaw16_SeqRises.j0 kq a0 a1 a2 true x30_4 = some r) ∧ Aside0 (kq ≤ k) ∧ Aside0 (Below w.heap.size w wc))
  case first =>
    have H := HC5.out
    clear HC5
    by_cases c7 : a1 < 0
    · rw [if_pos c7] at H
      have c7b0 : decide (a1 < 0) = true := decide_eq_true c7
      clear c7
      (first | rw [c7b0] | (simp only [i64_w, i32_w]; rw [c7b0]) | skip)
      have H' := Aside0.mk H
      clear H
      go_wp2
      go_meet
      case rel => exact ⟨_, (true), (by first | rfl | (simp; done) | (simp [*]; done)), H', ⟨by first | omega | exact Nat.le_refl _⟩, ⟨by repeat (first | (with_reducible first | exact HB.out | apply below_alloc | apply pw_below_drewN | apply below_drew1) | exact HB.out)⟩⟩
    · rw [if_neg c7] at H
      have c7b0 : decide (a1 < 0) = false := decide_eq_false c7
      clear c7
      (first | rw [c7b0] | (simp only [i64_w, i32_w]; rw [c7b0]) | skip)
      by_cases c8 : a1 > 100
      · rw [if_pos c8] at H
        have c8b0 : decide (100 < a1) = true := decide_eq_true c8
        clear c8
        have H' := Aside0.mk H
        clear H
        go_wp2
        go_meet
        case rel => exact ⟨_, (true), (by first | rfl | (simp; done) | (simp [*]; done)), H', ⟨by first | omega | exact Nat.le_refl _⟩, ⟨by repeat (first | (with_reducible first | exact HB.out | apply below_alloc | apply pw_below_drewN | apply below_drew1) | exact HB.out)⟩⟩
      · rw [if_neg c8] at H
        have c8b0 : decide (100 < a1) = false := decide_eq_false c8
        clear c8
        have H' := Aside0.mk H
        clear H
        go_wp2
        go_meet
        case rel => exact ⟨_, (decide (a0 > 9223372036854775808)), (by first | rfl | (simp; done) | (simp [*]; done)), H', ⟨by first | omega | exact Nat.le_refl _⟩, ⟨by repeat (first | (with_reducible first | exact HB.out | apply below_alloc | apply pw_below_drewN | apply below_drew1) | exact HB.out)⟩⟩
  case rest =>
    clear HC5
    try clear p2
    try clear c3
    try clear c7
    try clear c7b0
    try clear c8
    try clear c8b0
    obtain ⟨kq, x30_4, rfl, HA, HJ4, HB⟩ := hcut
    cases kq with
    | zero => exact absurd HA.out (by simp [interchangelaw16_SeqRises.j0])
    | succ kj4 =>
      have H := HA.out
      clear HA
      simp only [interchangelaw16_SeqRises.j0] at H
      by_cases c9 : x30_4 = true
      · subst c9
        have H1 : (some true) = some r := by rw [if_pos rfl] at H; exact H
        clear H
        have H := H1
        clear H1
        obtain rfl := Option.some.inj H
        go_wp2
        go_ret
        exact ⟨by first | rfl | (simp [errW_none, errW_some] <;> rfl) | (simp [*, errW_none, errW_some] <;> rfl) | (exfalso; simp only [decide_eq_true_eq, decide_eq_false_iff_not, beq_iff_eq, bne_iff_ne, ne_eq, beq_eq_false_iff_ne, bne_eq_false_iff_eq] at *; omega), by repeat (first | (with_reducible first | exact HB.out | apply below_alloc | apply pw_below_drewN | apply below_drew1) | exact HB.out)⟩
      · replace c9 := Bool.eq_false_iff.mpr c9
        subst c9
        have H1 : ((seq_Select.f false 0 0 ([] : List Int) a0).bind fun bt143 => (interchangelaw16_SeqRises.l0 kj4 a0 a1 a2 true bt143.2.2.2.2 1 bt143.1 bt143.2.1 bt143.2.2.1 bt143.2.2.2.1)) = some r := by rw [if_neg (show ¬ (false = true) by decide)] at H; exact H
        clear H
        have H := H1
        clear H1
        replace H := Option.bind_eq_some_iff.mp H
        obtain ⟨⟨t143, t144, t145, t146, t149⟩, A100, H⟩ := H
        replace H : (interchangelaw16_SeqRises.l0 kj4 a0 a1 a2 true t149 1 t143 t144 t145 t146) = some r := H
        have A10 := Aside0.mk A100
        clear A100
        have H' := Aside0.mk H
        clear H
        go_wp2_with (first | ((with_reducible refine gate_callee (f := 10) rfl ?_); refine goesL_ (some 35) rfl rfl Try.func10 (by kernel_rfl) rfl #[.agg #[.bool false, .int .u64 0, .int .u64 0, .slice none 0 0], .int .u64 a0] rfl (by (try simp only [List.map_toArray, List.map_cons, List.map_nil]); first | done | rfl | (simp only [List.length_drop, List.length_take]; rfl)) ?_; (refine (seq_Select.calls false 0 0 (fun k_ => False) _ _ ([] : List Int) a0 t143 t144 t145 t146 t149 _ ?side1 A10.out).mono ?_); (case side1 => exact Kd.V_nil _ _ _ _ _); rintro e w11 ⟨v147, rfl, ho0, hb⟩; refine ⟨_, rfl, ?_⟩; have n0_ := Aside0.mk (Kd.V_lower (Kd.V_mono (ok' := fun k_ => True) ho0 (fun k_ hk_ => trivial)) (below_size (by repeat (first | (with_reducible first | exact HB.out | apply below_alloc | apply pw_below_drewN | apply below_drew1) | exact HB.out)))); have n1_ := Aside0.mk (below_step (by repeat (first | (with_reducible first | exact HB.out | apply below_alloc | apply pw_below_drewN | apply below_drew1) | exact HB.out)) hb); clear HB; have HO148 := n0_; have HB := n1_; clear n0_ n1_; (try clear hb); (try clear hb2); (try clear hk); (try clear hi); (try clear ho0)) | ((with_reducible refine gate_dst (N := 8) rfl ?_); (try (refine gate_guard (by rfl) ?_; dsimp only)); refine box_event ?hg (N := 8) ?hd (cs := #[.bool false, .int .u64 0, .int .u64 0, .slice none 0 0]) (t := 26) ?hr ?_; (case hd => rfl); (case hg => rfl); (case hr => first | (go_simp; done) | (go_simp; rfl)); intro gb150 hg w12 hbox hb; have n0_ := Aside0.mk (Kd.V_below (Kd.V_elderB (by (with_reducible repeat (first | apply Kd.V_alloc | apply Kd.V_drewN | apply Kd.V_drew)); exact HO148.out) gb150 (Nat.le_of_eq hg.symm)) hb); have n1_ := Aside0.mk (below_step (by repeat (first | (with_reducible first | exact HB.out | apply below_alloc | apply pw_below_drewN | apply below_drew1) | exact HB.out)) hb); have n2_ := Aside0.mk (hbox); have n3_ := Aside0.mk ((by rw [hg]; exact (below_size (by repeat (first | (with_reducible first | exact HB.out | apply below_alloc | apply pw_below_drewN | apply below_drew1) | exact HB.out))) : w.heap.size ≤ gb150)); have n4_ := Aside0.mk ((by rw [hg]; exact (below_size (by repeat (first | (with_reducible first | exact HB.out | apply below_alloc | apply pw_below_drewN | apply below_drew1) | exact HB.out))) : w.heap.size ≤ gb150)); clear HO148; clear HB; have HO148 := n0_; have HB := n1_; have BK150 := n2_; have GW150 := n3_; have GE150 := n4_; clear n0_ n1_ n2_ n3_ n4_; clear hb hbox hg; have hcz13_0 : w12.cell? ⟨gb150, 0, none⟩ = some (.bool false) := (blk_cell BK150.out 0).trans rfl; have hcz13_1 : w12.cell? ⟨gb150, 1, none⟩ = some (.int .u64 0) := (blk_cell BK150.out 1).trans rfl; have hcz13_2 : w12.cell? ⟨gb150, 2, none⟩ = some (.int .u64 0) := (blk_cell BK150.out 2).trans rfl; have hcz13_3 : w12.cell? ⟨gb150, 3, none⟩ = some (.slice none 0 0) := (blk_cell BK150.out 3).trans rfl; have hfz13_0 := blk_frozen BK150.out 0; have hfz13_1 := blk_frozen BK150.out 1; have hfz13_2 := blk_frozen BK150.out 2; have hfz13_3 := blk_frozen BK150.out 3; obtain ⟨Ao14, co14, eo14⟩ := Kd.V_slice HO148.out; subst eo14))
        go_loopg [10] kj4 (fun kq v10 w' => ∃ (x10_2 : Int) (x151000_2 : Bool) (x151001_2 : Int) (x151002_2 : Int) (x151003_2 : List Int) (u151003 : Value), v10 = .int .i64 x10_2 ∧ Aside0 (interchangelaw16_SeqRises.l0 kq a0 a1 a2 true t149 x10_2 x151000_2 x151001_2 x151002_2 x151003_2 = some r) ∧ Aside0 (kq ≤ kj4) ∧ Aside0 (Kd.V (Kd.int .u64) 22 w' w.heap.size (fun k_ => k_ ≠ gb150) u151003 x151003_2) ∧ Aside0 (w'.heap[gb150]? = some (.cells #[.bool x151000_2, .int .u64 x151001_2, .int .u64 x151002_2, u151003] 26 (0, 0))) ∧ Aside0 (Below w.heap.size w w'))
        case atStart => exact ⟨(1), (t143), (t144), (t145), (t146), (.slice Ao14 t146.length co14), (by first | rfl | (simp; done) | (simp [*]; done)), H', ⟨Nat.le_refl _⟩, ⟨by (with_reducible repeat (first | apply Kd.V_alloc | apply Kd.V_drewN | apply Kd.V_drew)); exact Kd.V_mono (Kd.V_far (p := ⟨gb150, 3, none⟩) (Kd.V_far (p := ⟨gb150, 2, none⟩) (Kd.V_far (p := ⟨gb150, 1, none⟩) (Kd.V_far (p := ⟨gb150, 0, none⟩) (Kd.V_mono HO148.out (fun k_ hk => (⟨hk, hk.2⟩ : _ ∧ k_ ≠ gb150))) (fun _ hk => hk.2) (.bool t143)) (fun _ hk => hk.2) (.int .u64 t144)) (fun _ hk => hk.2) (.int .u64 t145)) (fun _ hk => hk.2) (.slice Ao14 t146.length co14)) (fun _ hk => hk.1.2)⟩, ⟨by (with_reducible repeat (first | refine blk_drewN ?_ _ | refine blk_drew ?_ | refine blk_alloc ?_ _)); refine blk_put (cs := #[.bool t143, .int .u64 t144, .int .u64 t145, .slice none 0 0]) ?_ 3 _ rfl; (with_reducible repeat (first | refine blk_drewN ?_ _ | refine blk_drew ?_ | refine blk_alloc ?_ _)); refine blk_put (cs := #[.bool t143, .int .u64 t144, .int .u64 0, .slice none 0 0]) ?_ 2 _ rfl; (with_reducible repeat (first | refine blk_drewN ?_ _ | refine blk_drew ?_ | refine blk_alloc ?_ _)); refine blk_put (cs := #[.bool t143, .int .u64 0, .int .u64 0, .slice none 0 0]) ?_ 1 _ rfl; (with_reducible repeat (first | refine blk_drewN ?_ _ | refine blk_drew ?_ | refine blk_alloc ?_ _)); refine blk_put (cs := #[.bool false, .int .u64 0, .int .u64 0, .slice none 0 0]) ?_ 0 _ rfl; (with_reducible repeat (first | refine blk_drewN ?_ _ | refine blk_drew ?_ | refine blk_alloc ?_ _)); exact BK150.out⟩, ⟨by repeat (first | (with_reducible first | exact HB.out | apply below_alloc | apply pw_below_drewN | apply below_drew1 | refine below_set ?_ GE150.out) | exact HB.out)⟩⟩
        case round =>
          clear H'
          try clear c1
          try clear p2
          try clear c3
          try clear c7
          try clear c7b0
          try clear c8
          try clear c8b0
          try clear c9
          try clear c10
          try clear hcz13_0
          try clear hcz13_1
          try clear hcz13_2
          try clear hcz13_3
          try clear hfz13_0
          try clear hfz13_1
          try clear hfz13_2
          try clear hfz13_3
          try clear p2
          obtain ⟨x10_2, x151000_2, x151001_2, x151002_2, x151003_2, u151003, rfl, HA, HK2, HO_151003, BK150, HB⟩ := hrel
          cases gk with
          | zero => exact absurd HA.out (by simp [interchangelaw16_SeqRises.l0])
          | succ k2 =>
            have H := HA.out
            clear HA
            simp only [interchangelaw16_SeqRises.l0] at H
            by_cases c15 : x10_2 ≤ a1
            · rw [if_pos c15] at H
              have c15b0 : decide (x10_2 ≤ a1) = true := decide_eq_true c15
              clear c15
              replace H := Option.bind_eq_some_iff.mp H
              obtain ⟨⟨t151, t152, t153, t154, t157, t158⟩, A160, H⟩ := H
              replace H : (if t158 = 0 then (if t157 = (IntKind.u64.wrap (x10_2)) then (interchangelaw16_SeqRises.l0 k2 a0 a1 a2 true t149 (wrap64 (x10_2 + 1)) t151 t152 t153 t154) else (some false)) else (some false)) = some r := H
              have A16 := Aside0.mk A160
              clear A160
              by_cases c17 : t158 = 0
              · rw [if_pos c17] at H
                have c17b0 : (t158 == 0) = true := beq_iff_eq.mpr c17
                have c17b1 : (t158 != 0) = false := bne_eq_false_iff_eq.mpr c17
                clear c17
                by_cases c18 : t157 = (IntKind.u64.wrap (x10_2))
                · rw [if_pos c18] at H
                  have c18b0 : (t157 == (IntKind.u64.wrap (x10_2))) = true := beq_iff_eq.mpr c18
                  have c18b1 : (t157 != (IntKind.u64.wrap (x10_2))) = false := bne_eq_false_iff_eq.mpr c18
                  clear c18
                  have H' := Aside0.mk H
                  clear H
                  have hcz19_0 : wr.cell? ⟨gb150, 0, none⟩ = some (.bool x151000_2) := (blk_cell BK150.out 0).trans rfl
                  have hcz19_1 : wr.cell? ⟨gb150, 1, none⟩ = some (.int .u64 x151001_2) := (blk_cell BK150.out 1).trans rfl
                  have hcz19_2 : wr.cell? ⟨gb150, 2, none⟩ = some (.int .u64 x151002_2) := (blk_cell BK150.out 2).trans rfl
                  have hcz19_3 : wr.cell? ⟨gb150, 3, none⟩ = some (u151003) := (blk_cell BK150.out 3).trans rfl
                  have hfz19_0 := blk_frozen BK150.out 0
                  have hfz19_1 := blk_frozen BK150.out 1
                  have hfz19_2 := blk_frozen BK150.out 2
                  have hfz19_3 := blk_frozen BK150.out 3
                  obtain ⟨Ao20, co20, eo20⟩ := Kd.V_slice HO_151003.out
                  subst eo20
                  go_wp2_with (first | ((with_reducible refine gate_callee (f := 11) rfl ?_); refine goesL_ (some 45) rfl rfl Try.func11 (by kernel_rfl) rfl #[.agg #[.bool x151000_2, .int .u64 x151001_2, .int .u64 x151002_2, .slice Ao20 x151003_2.length co20], .int .i64 500] rfl (by (try simp only [List.map_toArray, List.map_cons, List.map_nil]); first | done | rfl | (simp only [List.length_drop, List.length_take]; rfl)) ?_; (with_reducible refine (seq_Publish.calls x151000_2 x151001_2 x151002_2 (fun k_ => k_ ≠ gb150) _ _ x151003_2 500 t151 t152 t153 t154 t157 t158 _ ?side1 A16.out).mono ?_); (case side1 => exact HO_151003.out); rintro e w21 ⟨v155, rfl, ho0, hb⟩; refine ⟨_, rfl, ?_⟩; have n0_ := Aside0.mk (Kd.V_below (by (with_reducible repeat (first | apply Kd.V_alloc | apply Kd.V_drewN | apply Kd.V_drew)); exact HO_151003.out) hb); have n1_ := Aside0.mk (Kd.V_lower (Kd.V_mono (ok' := fun k_ => k_ ≠ gb150) ho0 (fun k_ hk_ => Or.elim hk_ (fun hs_ => hs_) (fun hn_ => (Kd.freshB (g := gb150) (o := .cells #[.bool x151000_2, .int .u64 x151001_2, .int .u64 x151002_2, .slice Ao20 x151003_2.length co20] 26 (0, 0)) (by (with_reducible repeat (first | refine blk_drewN ?_ _ | refine blk_drew ?_ | refine blk_alloc ?_ _)); exact BK150.out) k_ hn_)))) (below_size (by repeat (first | (with_reducible first | exact HB.out | apply below_alloc | apply pw_below_drewN | apply below_drew1 | refine below_set ?_ GE150.out) | exact HB.out)))); have n2_ := Aside0.mk (blk_below (g := gb150) (o := .cells #[.bool x151000_2, .int .u64 x151001_2, .int .u64 x151002_2, .slice Ao20 x151003_2.length co20] 26 (0, 0)) (by (with_reducible repeat (first | refine blk_drewN ?_ _ | refine blk_drew ?_ | refine blk_alloc ?_ _)); exact BK150.out) hb); have n3_ := Aside0.mk (below_step (by repeat (first | (with_reducible first | exact HB.out | apply below_alloc | apply pw_below_drewN | apply below_drew1 | refine below_set ?_ GE150.out) | exact HB.out)) hb); clear HO_151003; clear BK150; clear HB; have HO_151003 := n0_; have HO156 := n1_; have BK150 := n2_; have HB := n3_; clear n0_ n1_ n2_ n3_; (try clear hb); (try clear hb2); (try clear hk); (try clear hi); (try clear ho0)) | ((with_reducible refine gate_dst (N := 11) rfl ?_); (try (refine gate_guard (by rfl) ?_; dsimp only)); refine box_event ?hg (N := 11) ?hd (cs := #[.bool false, .int .u64 0, .int .u64 0, .slice none 0 0]) (t := 26) ?hr ?_; (case hd => rfl); (case hg => rfl); (case hr => first | (go_simp; done) | (go_simp; rfl)); intro gb159 hg w22 hbox hb; have n0_ := Aside0.mk (Kd.V_below (Kd.V_elderB (by (with_reducible repeat (first | apply Kd.V_alloc | apply Kd.V_drewN | apply Kd.V_drew)); exact HO_151003.out) gb159 (Nat.le_of_eq hg.symm)) hb); have n1_ := Aside0.mk (Kd.V_below (Kd.V_elderB (by (with_reducible repeat (first | apply Kd.V_alloc | apply Kd.V_drewN | apply Kd.V_drew)); exact HO156.out) gb159 (Nat.le_of_eq hg.symm)) hb); have n2_ := Aside0.mk (blk_below (g := gb150) (o := .cells #[.bool x151000_2, .int .u64 x151001_2, .int .u64 x151002_2, .slice Ao20 x151003_2.length co20] 26 (0, 0)) (by (with_reducible repeat (first | refine blk_drewN ?_ _ | refine blk_drew ?_ | refine blk_alloc ?_ _)); exact BK150.out) hb); have n3_ := Aside0.mk (below_step (by repeat (first | (with_reducible first | exact HB.out | apply below_alloc | apply pw_below_drewN | apply below_drew1 | refine below_set ?_ GE150.out) | exact HB.out)) hb); have n4_ := Aside0.mk (hbox); have n5_ := Aside0.mk ((by rw [hg]; exact (below_size (by repeat (first | (with_reducible first | exact HB.out | apply below_alloc | apply pw_below_drewN | apply below_drew1 | refine below_set ?_ GE150.out) | exact HB.out))) : w.heap.size ≤ gb159)); have n6_ := Aside0.mk ((by rw [hg]; exact (below_size (by repeat (first | (with_reducible first | exact HB.out | apply below_alloc | apply pw_below_drewN | apply below_drew1 | refine below_set ?_ GE150.out) | exact HB.out))) : w.heap.size ≤ gb159)); have n7_ := Aside0.mk ((by rw [hg]; exact Nat.ne_of_lt (blk_lt (g := gb150) (o := .cells #[.bool x151000_2, .int .u64 x151001_2, .int .u64 x151002_2, .slice Ao20 x151003_2.length co20] 26 (0, 0)) (by (with_reducible repeat (first | refine blk_drewN ?_ _ | refine blk_drew ?_ | refine blk_alloc ?_ _)); exact BK150.out)) : gb150 ≠ gb159)); have n8_ := Aside0.mk ((by rw [hg]; exact Nat.ne_of_gt (blk_lt (g := gb150) (o := .cells #[.bool x151000_2, .int .u64 x151001_2, .int .u64 x151002_2, .slice Ao20 x151003_2.length co20] 26 (0, 0)) (by (with_reducible repeat (first | refine blk_drewN ?_ _ | refine blk_drew ?_ | refine blk_alloc ?_ _)); exact BK150.out)) : gb159 ≠ gb150)); clear HO_151003; clear HO156; clear BK150; clear HB; have HO_151003 := n0_; have HO156 := n1_; have BK150 := n2_; have HB := n3_; have BK159 := n4_; have GW159 := n5_; have GE159 := n6_; have NB150_159 := n7_; have NB159_150 := n8_; clear n0_ n1_ n2_ n3_ n4_ n5_ n6_ n7_ n8_; clear hb hbox hg; have hnb23 := NB159_150.out; have hnc23 := NB150_159.out; have hcz24_0 : w22.cell? ⟨gb159, 0, none⟩ = some (.bool false) := (blk_cell BK159.out 0).trans rfl; have hcz24_1 : w22.cell? ⟨gb159, 1, none⟩ = some (.int .u64 0) := (blk_cell BK159.out 1).trans rfl; have hcz24_2 : w22.cell? ⟨gb159, 2, none⟩ = some (.int .u64 0) := (blk_cell BK159.out 2).trans rfl; have hcz24_3 : w22.cell? ⟨gb159, 3, none⟩ = some (.slice none 0 0) := (blk_cell BK159.out 3).trans rfl; have hfz24_0 := blk_frozen BK159.out 0; have hfz24_1 := blk_frozen BK159.out 1; have hfz24_2 := blk_frozen BK159.out 2; have hfz24_3 := blk_frozen BK159.out 3; obtain ⟨Ao25, co25, eo25⟩ := Kd.V_slice HO156.out; subst eo25; have hcz26_0 : w22.cell? ⟨gb150, 0, none⟩ = some (.bool x151000_2) := (blk_cell BK150.out 0).trans rfl; have hcz26_1 : w22.cell? ⟨gb150, 1, none⟩ = some (.int .u64 x151001_2) := (blk_cell BK150.out 1).trans rfl; have hcz26_2 : w22.cell? ⟨gb150, 2, none⟩ = some (.int .u64 x151002_2) := (blk_cell BK150.out 2).trans rfl; have hcz26_3 : w22.cell? ⟨gb150, 3, none⟩ = some (.slice Ao20 x151003_2.length co20) := (blk_cell BK150.out 3).trans rfl; have hfz26_0 := blk_frozen BK150.out 0; have hfz26_1 := blk_frozen BK150.out 1; have hfz26_2 := blk_frozen BK150.out 2; have hfz26_3 := blk_frozen BK150.out 3))
                  go_roundg k2
                  case measure => have := HJ4.out; have := HK2.out; omega
                  case rel => exact ⟨(wrap64 (x10_2 + 1)), (t151), (t152), (t153), (t154), (.slice Ao25 t154.length co25), (by first | rfl | (simp; done) | (simp [*]; done)), H', ⟨by have := HJ4.out; have := HK2.out; omega⟩, ⟨by (with_reducible repeat (first | apply Kd.V_alloc | apply Kd.V_drewN | apply Kd.V_drew)); exact Kd.V_mono (Kd.V_far (p := ⟨gb150, 3, none⟩) (Kd.V_far (p := ⟨gb150, 2, none⟩) (Kd.V_far (p := ⟨gb150, 1, none⟩) (Kd.V_far (p := ⟨gb150, 0, none⟩) (Kd.V_far (p := ⟨gb159, 3, none⟩) (Kd.V_far (p := ⟨gb159, 2, none⟩) (Kd.V_far (p := ⟨gb159, 1, none⟩) (Kd.V_far (p := ⟨gb159, 0, none⟩) (Kd.V_mono (Kd.V_mono HO156.out (fun k_ hk => (⟨hk, hk.2⟩ : _ ∧ k_ ≠ gb159))) (fun k_ hk => (⟨hk, hk.1.1⟩ : _ ∧ k_ ≠ gb150))) (fun _ hk => hk.1.2) (.bool t151)) (fun _ hk => hk.1.2) (.int .u64 t152)) (fun _ hk => hk.1.2) (.int .u64 t153)) (fun _ hk => hk.1.2) (.slice Ao25 t154.length co25)) (fun _ hk => hk.2) (.bool t151)) (fun _ hk => hk.2) (.int .u64 t152)) (fun _ hk => hk.2) (.int .u64 t153)) (fun _ hk => hk.2) (.slice Ao25 t154.length co25)) (fun _ hk => hk.1.1.1)⟩, ⟨by (with_reducible repeat (first | refine blk_drewN ?_ _ | refine blk_drew ?_ | refine blk_alloc ?_ _)); refine blk_put (cs := #[.bool t151, .int .u64 t152, .int .u64 t153, .slice Ao20 x151003_2.length co20]) ?_ 3 _ rfl; (with_reducible repeat (first | refine blk_drewN ?_ _ | refine blk_drew ?_ | refine blk_alloc ?_ _)); refine blk_put (cs := #[.bool t151, .int .u64 t152, .int .u64 x151002_2, .slice Ao20 x151003_2.length co20]) ?_ 2 _ rfl; (with_reducible repeat (first | refine blk_drewN ?_ _ | refine blk_drew ?_ | refine blk_alloc ?_ _)); refine blk_put (cs := #[.bool t151, .int .u64 x151001_2, .int .u64 x151002_2, .slice Ao20 x151003_2.length co20]) ?_ 1 _ rfl; (with_reducible repeat (first | refine blk_drewN ?_ _ | refine blk_drew ?_ | refine blk_alloc ?_ _)); refine blk_put (cs := #[.bool x151000_2, .int .u64 x151001_2, .int .u64 x151002_2, .slice Ao20 x151003_2.length co20]) ?_ 0 _ rfl; (with_reducible repeat (first | refine blk_drewN ?_ _ | refine blk_drew ?_ | refine blk_alloc ?_ _)); refine blk_far ?_ NB150_159.out _; (with_reducible repeat (first | refine blk_drewN ?_ _ | refine blk_drew ?_ | refine blk_alloc ?_ _)); refine blk_far ?_ NB150_159.out _; (with_reducible repeat (first | refine blk_drewN ?_ _ | refine blk_drew ?_ | refine blk_alloc ?_ _)); refine blk_far ?_ NB150_159.out _; (with_reducible repeat (first | refine blk_drewN ?_ _ | refine blk_drew ?_ | refine blk_alloc ?_ _)); refine blk_far ?_ NB150_159.out _; (with_reducible repeat (first | refine blk_drewN ?_ _ | refine blk_drew ?_ | refine blk_alloc ?_ _)); exact BK150.out⟩, ⟨by repeat (first | (with_reducible first | exact HB.out | apply below_alloc | apply pw_below_drewN | apply below_drew1 | refine below_set ?_ GE150.out | refine below_set ?_ GE159.out) | exact HB.out)⟩⟩
                · rw [if_neg c18] at H
                  exact absurd ((Option.some.inj H).trans hT_.out) (by decide)
              · rw [if_neg c17] at H
                exact absurd ((Option.some.inj H).trans hT_.out) (by decide)
            · rw [if_neg c15] at H
              have c15b0 : decide (x10_2 ≤ a1) = false := decide_eq_false c15
              clear c15
              have HC27 := Aside0.mk H
              clear H
              go_upto_region 12 with (fail)
              go_cut [68] (fun v68 wc => ∃ (kq : Nat) (x68_26 : Bool), v68 = .bool x68_26 ∧ Aside0 (interchangelaw16_SeqRises.j2 kq a0 a2 true t149 x68_26 x151000_2 x151001_2 x151002_2 x151003_2 = some r) ∧ Aside0 (kq ≤ k2) ∧ Aside0 (Kd.V (Kd.int .u64) 22 wc w.heap.size (fun k_ => k_ ≠ gb150) u151003 x151003_2) ∧ Aside0 (wc.heap[gb150]? = some (.cells #[.bool x151000_2, .int .u64 x151001_2, .int .u64 x151002_2, u151003] 26 (0, 0))) ∧ Aside0 (Below w.heap.size w wc))
              case first =>
                have H := HC27.out
                clear HC27
                by_cases c28 : t149 = 0
                · rw [if_pos c28] at H
                  have c28b0 : (t149 == 0) = true := beq_iff_eq.mpr c28
                  have c28b1 : (t149 != 0) = false := bne_eq_false_iff_eq.mpr c28
                  clear c28
                  (first | rw [c28b0] | (simp only [i64_w, i32_w]; rw [c28b0]) | skip)
                  by_cases c29 : a2 < 1
                  · rw [if_pos c29] at H
                    have c29b0 : decide (a2 < 1) = true := decide_eq_true c29
                    clear c29
                    have H' := Aside0.mk H
                    clear H
                    go_wp2
                    go_meet
                    case rel => exact ⟨_, (true), (by first | rfl | (simp; done) | (simp [*]; done)), H', ⟨by have := HJ4.out; have := HK2.out; first | omega | exact Nat.le_refl _⟩, ⟨by (with_reducible repeat (first | apply Kd.V_alloc | apply Kd.V_drewN | apply Kd.V_drew)); exact HO_151003.out⟩, ⟨by (with_reducible repeat (first | refine blk_drewN ?_ _ | refine blk_drew ?_ | refine blk_alloc ?_ _)); exact BK150.out⟩, ⟨by repeat (first | (with_reducible first | exact HB.out | apply below_alloc | apply pw_below_drewN | apply below_drew1 | refine below_set ?_ GE150.out) | exact HB.out)⟩⟩
                  · rw [if_neg c29] at H
                    have c29b0 : decide (a2 < 1) = false := decide_eq_false c29
                    clear c29
                    have H' := Aside0.mk H
                    clear H
                    go_wp2
                    go_meet
                    case rel => exact ⟨_, (decide (a2 > a1)), (by first | rfl | (simp; done) | (simp [*]; done)), H', ⟨by have := HJ4.out; have := HK2.out; first | omega | exact Nat.le_refl _⟩, ⟨by (with_reducible repeat (first | apply Kd.V_alloc | apply Kd.V_drewN | apply Kd.V_drew)); exact HO_151003.out⟩, ⟨by (with_reducible repeat (first | refine blk_drewN ?_ _ | refine blk_drew ?_ | refine blk_alloc ?_ _)); exact BK150.out⟩, ⟨by repeat (first | (with_reducible first | exact HB.out | apply below_alloc | apply pw_below_drewN | apply below_drew1 | refine below_set ?_ GE150.out) | exact HB.out)⟩⟩
                · rw [if_neg c28] at H
                  have c28b0 : (t149 == 0) = false := beq_eq_false_iff_ne.mpr c28
                  have c28b1 : (t149 != 0) = true := bne_iff_ne.mpr c28
                  (first | rw [c28b0] | (simp only [i64_w, i32_w]; rw [c28b0]) | skip)
                  have H' := Aside0.mk H
                  clear H
                  go_wp2
                  go_meet
                  case rel => exact ⟨_, (true), (by first | rfl | (simp; done) | (simp [*]; done)), H', ⟨by have := HJ4.out; have := HK2.out; first | omega | exact Nat.le_refl _⟩, ⟨by (with_reducible repeat (first | apply Kd.V_alloc | apply Kd.V_drewN | apply Kd.V_drew)); exact HO_151003.out⟩, ⟨by (with_reducible repeat (first | refine blk_drewN ?_ _ | refine blk_drew ?_ | refine blk_alloc ?_ _)); exact BK150.out⟩, ⟨by repeat (first | (with_reducible first | exact HB.out | apply below_alloc | apply pw_below_drewN | apply below_drew1 | refine below_set ?_ GE150.out) | exact HB.out)⟩⟩
              case rest =>
                clear HC27
                try clear c1
                try clear c2
                try clear p2
                try clear c3
                try clear p6
                try clear c7
                try clear c7b0
                try clear c8
                try clear c8b0
                try clear c9
                try clear c10
                try clear c11
                try clear c15
                try clear c15b0
                try clear c17
                try clear c17b0
                try clear c17b1
                try clear c18
                try clear c18b0
                try clear c18b1
                try clear c23
                try clear c28
                try clear c28b0
                try clear c28b1
                try clear c29
                try clear c29b0
                try clear hcz13_0
                try clear hcz13_1
                try clear hcz13_2
                try clear hcz13_3
                try clear hcz19_0
                try clear hcz19_1
                try clear hcz19_2
                try clear hcz19_3
                try clear hcz24_0
                try clear hcz24_1
                try clear hcz24_2
                try clear hcz24_3
                try clear hcz26_0
                try clear hcz26_1
                try clear hcz26_2
                try clear hcz26_3
                try clear hfz13_0
                try clear hfz13_1
                try clear hfz13_2
                try clear hfz13_3
                try clear hfz19_0
                try clear hfz19_1
                try clear hfz19_2
                try clear hfz19_3
                try clear hfz24_0
                try clear hfz24_1
                try clear hfz24_2
                try clear hfz24_3
                try clear hfz26_0
                try clear hfz26_1
                try clear hfz26_2
                try clear hfz26_3
                try clear p2
                obtain ⟨kq, x68_26, rfl, HA, HJ26, HO_151003, BK150, HB⟩ := hcut
                cases kq with
                | zero => exact absurd HA.out (by simp [interchangelaw16_SeqRises.j2])
                | succ kj26 =>
                  have H := HA.out
                  clear HA
                  simp only [interchangelaw16_SeqRises.j2] at H
                  by_cases c30 : x68_26 = true
                  · subst c30
                    have H1 : (if true = true then (some (t149 == 0)) else (some false)) = some r := by rw [if_pos rfl] at H; exact H
                    clear H
                    have H := H1
                    clear H1
                    have c31 : true = true := rfl
                    · clear c31
                      have H1 : (some (t149 == 0)) = some r := by first | (rw [if_pos rfl] at H; exact H) | (rw [if_pos trivial] at H; exact H)
                      clear H
                      have H := H1
                      clear H1
                      replace H : (if t149 = 0 then (some true) else (some false)) = some r := by
                        rw [← H]
                        by_cases hc_ : t149 = 0
                        · rw [if_pos hc_]; exact congrArg some (Eq.symm (by first | exact decide_eq_true hc_ | exact beq_iff_eq.mpr hc_ | exact hc_ | (simp [hc_]; done) | simp_all))
                        · rw [if_neg hc_]; exact congrArg some (Eq.symm (by first | exact decide_eq_false hc_ | exact beq_eq_false_iff_ne.mpr hc_ | exact Bool.eq_false_iff.mpr hc_ | (simp [hc_]; done) | simp_all))
                      by_cases c32 : t149 = 0
                      · rw [if_pos c32] at H
                        have c32b0 : (t149 == 0) = true := beq_iff_eq.mpr c32
                        have c32b1 : (t149 != 0) = false := bne_eq_false_iff_eq.mpr c32
                        clear c32
                        obtain rfl := Option.some.inj H
                        go_wp2
                        go_ret
                        exact ⟨by first | rfl | (simp [errW_none, errW_some] <;> rfl) | (simp [*, errW_none, errW_some] <;> rfl) | (exfalso; simp only [decide_eq_true_eq, decide_eq_false_iff_not, beq_iff_eq, bne_iff_ne, ne_eq, beq_eq_false_iff_ne, bne_eq_false_iff_eq] at *; omega), by repeat (first | (with_reducible first | exact HB.out | apply below_alloc | apply pw_below_drewN | apply below_drew1 | refine below_set ?_ GE150.out) | exact HB.out)⟩
                      · rw [if_neg c32] at H
                        exact absurd ((Option.some.inj H).trans hT_.out) (by decide)
                  · replace c30 := Bool.eq_false_iff.mpr c30
                    subst c30
                    have H1 : ((seq_Confirm.f x151000_2 x151001_2 x151002_2 x151003_2 (IntKind.u64.wrap (a0 + (IntKind.u64.wrap (a2)))) false).bind fun bt160 => ((seq_Confirm.f x151000_2 x151001_2 x151002_2 x151003_2 (IntKind.u64.wrap (a0 + (IntKind.u64.wrap (a2)))) true).bind fun bt171 => (if true = true then (if bt160.2.2.2.2.2 = 0 then (if (bt160.2.2.2.2.1.length : Int) = 1 then (if 0 < (bt160.2.2.2.2.1.length : Int) then (if (rd bt160.2.2.2.2.1 0) = (IntKind.u64.wrap (a2)) then (if bt171.2.2.2.2.2 = 0 then (some ((bt171.2.2.2.2.1.length : Int) == a2)) else (some false)) else (some false)) else (none)) else (some false)) else (some false)) else (some false)))) = some r := by rw [if_neg (show ¬ (false = true) by decide)] at H; exact H
                    clear H
                    have H := H1
                    clear H1
                    replace H := Option.bind_eq_some_iff.mp H
                    obtain ⟨⟨t160, t161, t162, t163, t166, t169⟩, A330, H⟩ := H
                    replace H : ((seq_Confirm.f x151000_2 x151001_2 x151002_2 x151003_2 (IntKind.u64.wrap (a0 + (IntKind.u64.wrap (a2)))) true).bind fun bt171 => (if true = true then (if t169 = 0 then (if (t166.length : Int) = 1 then (if 0 < (t166.length : Int) then (if (rd t166 0) = (IntKind.u64.wrap (a2)) then (if bt171.2.2.2.2.2 = 0 then (some ((bt171.2.2.2.2.1.length : Int) == a2)) else (some false)) else (some false)) else (none)) else (some false)) else (some false)) else (some false))) = some r := H
                    have A33 := Aside0.mk A330
                    clear A330
                    replace H := Option.bind_eq_some_iff.mp H
                    obtain ⟨⟨t171, t172, t173, t174, t177, t180⟩, A340, H⟩ := H
                    replace H : (if true = true then (if t169 = 0 then (if (t166.length : Int) = 1 then (if 0 < (t166.length : Int) then (if (rd t166 0) = (IntKind.u64.wrap (a2)) then (if t180 = 0 then (some ((t177.length : Int) == a2)) else (some false)) else (some false)) else (none)) else (some false)) else (some false)) else (some false)) = some r := H
                    have A34 := Aside0.mk A340
                    clear A340
                    have c35 : true = true := rfl
                    · clear c35
                      have H1 : (if t169 = 0 then (if (t166.length : Int) = 1 then (if 0 < (t166.length : Int) then (if (rd t166 0) = (IntKind.u64.wrap (a2)) then (if t180 = 0 then (some ((t177.length : Int) == a2)) else (some false)) else (some false)) else (none)) else (some false)) else (some false)) = some r := by first | (rw [if_pos rfl] at H; exact H) | (rw [if_pos trivial] at H; exact H)
                      clear H
                      have H := H1
                      clear H1
                      by_cases c36 : t169 = 0
                      · rw [if_pos c36] at H
                        have c36b0 : (t169 == 0) = true := beq_iff_eq.mpr c36
                        have c36b1 : (t169 != 0) = false := bne_eq_false_iff_eq.mpr c36
                        clear c36
                        by_cases c37 : (t166.length : Int) = 1
                        · rw [if_pos c37] at H
                          have c37b0 : ((t166.length : Int) == 1) = true := beq_iff_eq.mpr c37
                          have c37b1 : ((t166.length : Int) != 1) = false := bne_eq_false_iff_eq.mpr c37
                          clear c37
                          by_cases c38 : 0 < (t166.length : Int)
                          · rw [if_pos c38] at H
                            have c38b0 : decide (0 < (t166.length : Int)) = true := decide_eq_true c38
                            have c38b1 : decide (0 < t166.length) = true := decide_eq_true (by omega)
                            clear c38
                            by_cases c39 : (rd t166 0) = (IntKind.u64.wrap (a2))
                            · rw [if_pos c39] at H
                              have c39b0 : ((rd t166 0) == (IntKind.u64.wrap (a2))) = true := beq_iff_eq.mpr c39
                              have c39b1 : ((rd t166 0) != (IntKind.u64.wrap (a2))) = false := bne_eq_false_iff_eq.mpr c39
                              clear c39
                              by_cases c40 : t180 = 0
                              · rw [if_pos c40] at H
                                have c40b0 : (t180 == 0) = true := beq_iff_eq.mpr c40
                                have c40b1 : (t180 != 0) = false := bne_eq_false_iff_eq.mpr c40
                                clear c40
                                replace H : (if (t177.length : Int) = a2 then (some true) else (some false)) = some r := by
                                  rw [← H]
                                  by_cases hc_ : (t177.length : Int) = a2
                                  · rw [if_pos hc_]; exact congrArg some (Eq.symm (by first | exact decide_eq_true hc_ | exact beq_iff_eq.mpr hc_ | exact hc_ | (simp [hc_]; done) | simp_all))
                                  · rw [if_neg hc_]; exact congrArg some (Eq.symm (by first | exact decide_eq_false hc_ | exact beq_eq_false_iff_ne.mpr hc_ | exact Bool.eq_false_iff.mpr hc_ | (simp [hc_]; done) | simp_all))
                                by_cases c41 : (t177.length : Int) = a2
                                · rw [if_pos c41] at H
                                  have c41b0 : ((t177.length : Int) == a2) = true := beq_iff_eq.mpr c41
                                  have c41b1 : ((t177.length : Int) != a2) = false := bne_eq_false_iff_eq.mpr c41
                                  clear c41
                                  obtain rfl := Option.some.inj H
                                  have hcz42_0 : wc.cell? ⟨gb150, 0, none⟩ = some (.bool x151000_2) := (blk_cell BK150.out 0).trans rfl
                                  have hcz42_1 : wc.cell? ⟨gb150, 1, none⟩ = some (.int .u64 x151001_2) := (blk_cell BK150.out 1).trans rfl
                                  have hcz42_2 : wc.cell? ⟨gb150, 2, none⟩ = some (.int .u64 x151002_2) := (blk_cell BK150.out 2).trans rfl
                                  have hcz42_3 : wc.cell? ⟨gb150, 3, none⟩ = some (u151003) := (blk_cell BK150.out 3).trans rfl
                                  have hfz42_0 := blk_frozen BK150.out 0
                                  have hfz42_1 := blk_frozen BK150.out 1
                                  have hfz42_2 := blk_frozen BK150.out 2
                                  have hfz42_3 := blk_frozen BK150.out 3
                                  obtain ⟨Ao43, co43, eo43⟩ := Kd.V_slice HO_151003.out
                                  subst eo43
                                  go_wp2_with (first | ((with_reducible refine gate_callee (f := 12) rfl ?_); refine goesL_ (some 80) rfl rfl Try.func12 (by kernel_rfl) rfl #[.agg #[.bool x151000_2, .int .u64 x151001_2, .int .u64 x151002_2, .slice Ao43 x151003_2.length co43], .int .u64 (IntKind.u64.wrap (a0 + (IntKind.u64.wrap (a2)))), .bool false] rfl (by (try simp only [List.map_toArray, List.map_cons, List.map_nil]); first | done | rfl | (simp only [List.length_drop, List.length_take]; rfl)) ?_; (with_reducible refine (seq_Confirm.calls x151000_2 x151001_2 x151002_2 (fun k_ => k_ ≠ gb150) _ _ x151003_2 (IntKind.u64.wrap (a0 + (IntKind.u64.wrap (a2)))) false t160 t161 t162 t163 t166 t169 _ ?side1 A33.out).mono ?_); (case side1 => exact HO_151003.out); rintro e w44 ⟨v164, v167, rfl, ho0, ho1, hb⟩; refine ⟨_, rfl, ?_⟩; have n0_ := Aside0.mk (Kd.V_elder' (by (with_reducible repeat (first | apply Kd.V_alloc | apply Kd.V_drewN | apply Kd.V_drew)); exact HO_151003.out) (Kd.R_base ho1) hb); have n1_ := Aside0.mk (Kd.V_lower (Kd.V_mono (ok' := fun k_ => some k_ ≠ (v167 : Value).ownBlock ∧ k_ ≠ gb150) ho0 (fun k_ hk_ => ⟨hk_.2, Or.elim hk_.1 (fun hs_ => hs_) (fun hn_ => (Kd.freshB (g := gb150) (o := .cells #[.bool x151000_2, .int .u64 x151001_2, .int .u64 x151002_2, .slice Ao43 x151003_2.length co43] 26 (0, 0)) (by (with_reducible repeat (first | refine blk_drewN ?_ _ | refine blk_drew ?_ | refine blk_alloc ?_ _)); exact BK150.out) k_ hn_))⟩)) (below_size (by repeat (first | (with_reducible first | exact HB.out | apply below_alloc | apply pw_below_drewN | apply below_drew1 | refine below_set ?_ GE150.out) | exact HB.out)))); have n2_ := Aside0.mk (Kd.R_lower (Kd.R_mono (ok' := fun k_ => True) ho1 (fun _ hk_ => trivial)) (below_size (by repeat (first | (with_reducible first | exact HB.out | apply below_alloc | apply pw_below_drewN | apply below_drew1 | refine below_set ?_ GE150.out) | exact HB.out)))); have n3_ := Aside0.mk (blk_below (g := gb150) (o := .cells #[.bool x151000_2, .int .u64 x151001_2, .int .u64 x151002_2, .slice Ao43 x151003_2.length co43] 26 (0, 0)) (by (with_reducible repeat (first | refine blk_drewN ?_ _ | refine blk_drew ?_ | refine blk_alloc ?_ _)); exact BK150.out) hb); have n4_ := Aside0.mk (below_step (by repeat (first | (with_reducible first | exact HB.out | apply below_alloc | apply pw_below_drewN | apply below_drew1 | refine below_set ?_ GE150.out) | exact HB.out)) hb); clear HO_151003; clear BK150; clear HB; have HO_151003 := n0_; have HO165 := n1_; have HO168 := n2_; have BK150 := n3_; have HB := n4_; clear n0_ n1_ n2_ n3_ n4_; (try clear hb); (try clear hb2); (try clear hk); (try clear hi); (try clear ho0); (try clear ho1)) | ((with_reducible refine gate_dst (N := 14) rfl ?_); (try (refine gate_guard (by rfl) ?_; dsimp only)); refine box_event ?hg (N := 14) ?hd (cs := #[.bool false, .int .u64 0, .int .u64 0, .slice none 0 0]) (t := 26) ?hr ?_; (case hd => rfl); (case hg => rfl); (case hr => first | (go_simp; done) | (go_simp; rfl)); intro gb170 hg w45 hbox hb; have n0_ := Aside0.mk (Kd.V_below (Kd.V_elderB (by (with_reducible repeat (first | apply Kd.V_alloc | apply Kd.V_drewN | apply Kd.V_drew)); exact HO_151003.out) gb170 (Nat.le_of_eq hg.symm)) hb); have n1_ := Aside0.mk (Kd.V_below (Kd.V_elderB (by (with_reducible repeat (first | apply Kd.V_alloc | apply Kd.V_drewN | apply Kd.V_drew)); exact HO165.out) gb170 (Nat.le_of_eq hg.symm)) hb); have n2_ := Aside0.mk (Kd.R_below (by (with_reducible repeat (first | apply Kd.R_alloc | apply Kd.R_drewN | apply Kd.R_drew)); exact HO168.out) hb); have n3_ := Aside0.mk (blk_below (g := gb150) (o := .cells #[.bool x151000_2, .int .u64 x151001_2, .int .u64 x151002_2, .slice Ao43 x151003_2.length co43] 26 (0, 0)) (by (with_reducible repeat (first | refine blk_drewN ?_ _ | refine blk_drew ?_ | refine blk_alloc ?_ _)); exact BK150.out) hb); have n4_ := Aside0.mk (below_step (by repeat (first | (with_reducible first | exact HB.out | apply below_alloc | apply pw_below_drewN | apply below_drew1 | refine below_set ?_ GE150.out) | exact HB.out)) hb); have n5_ := Aside0.mk (hbox); have n6_ := Aside0.mk ((by rw [hg]; exact (below_size (by repeat (first | (with_reducible first | exact HB.out | apply below_alloc | apply pw_below_drewN | apply below_drew1 | refine below_set ?_ GE150.out) | exact HB.out))) : w.heap.size ≤ gb170)); have n7_ := Aside0.mk ((by rw [hg]; exact (below_size (by repeat (first | (with_reducible first | exact HB.out | apply below_alloc | apply pw_below_drewN | apply below_drew1 | refine below_set ?_ GE150.out) | exact HB.out))) : w.heap.size ≤ gb170)); have n8_ := Aside0.mk ((by rw [hg]; exact Nat.ne_of_lt (blk_lt (g := gb150) (o := .cells #[.bool x151000_2, .int .u64 x151001_2, .int .u64 x151002_2, .slice Ao43 x151003_2.length co43] 26 (0, 0)) (by (with_reducible repeat (first | refine blk_drewN ?_ _ | refine blk_drew ?_ | refine blk_alloc ?_ _)); exact BK150.out)) : gb150 ≠ gb170)); have n9_ := Aside0.mk ((by rw [hg]; exact Nat.ne_of_gt (blk_lt (g := gb150) (o := .cells #[.bool x151000_2, .int .u64 x151001_2, .int .u64 x151002_2, .slice Ao43 x151003_2.length co43] 26 (0, 0)) (by (with_reducible repeat (first | refine blk_drewN ?_ _ | refine blk_drew ?_ | refine blk_alloc ?_ _)); exact BK150.out)) : gb170 ≠ gb150)); clear HO_151003; clear HO165; clear HO168; clear BK150; clear HB; have HO_151003 := n0_; have HO165 := n1_; have HO168 := n2_; have BK150 := n3_; have HB := n4_; have BK170 := n5_; have GW170 := n6_; have GE170 := n7_; have NB150_170 := n8_; have NB170_150 := n9_; clear n0_ n1_ n2_ n3_ n4_ n5_ n6_ n7_ n8_ n9_; clear hb hbox hg; have hnb46 := NB170_150.out; have hnc46 := NB150_170.out; have hcz47_0 : w45.cell? ⟨gb170, 0, none⟩ = some (.bool false) := (blk_cell BK170.out 0).trans rfl; have hcz47_1 : w45.cell? ⟨gb170, 1, none⟩ = some (.int .u64 0) := (blk_cell BK170.out 1).trans rfl; have hcz47_2 : w45.cell? ⟨gb170, 2, none⟩ = some (.int .u64 0) := (blk_cell BK170.out 2).trans rfl; have hcz47_3 : w45.cell? ⟨gb170, 3, none⟩ = some (.slice none 0 0) := (blk_cell BK170.out 3).trans rfl; have hfz47_0 := blk_frozen BK170.out 0; have hfz47_1 := blk_frozen BK170.out 1; have hfz47_2 := blk_frozen BK170.out 2; have hfz47_3 := blk_frozen BK170.out 3; obtain ⟨Ao48, co48, eo48⟩ := Kd.V_slice HO165.out; subst eo48) | ((with_reducible refine gate_store (t := 26) (p := 14) rfl ?_); refine store_event (t := 26) (p := 14) (v := ?vo_w49) (w1 := ((((w45.setCell ⟨gb170, 0, none⟩ (.bool t160)).setCell ⟨gb170, 1, none⟩ (.int .u64 t161)).setCell ⟨gb170, 2, none⟩ (.int .u64 t162)).setCell ⟨gb170, 3, none⟩ (.slice Ao48 t163.length co48))) ?hg ?ho ?hn ?hr ?_; (case ho => rfl); (case hg => rfl); (case hn => rfl); (case hr => first | (go_simp; done) | (go_simp; rfl)); intro w49 hw; have n0_ : Aside0 (Kd.V (Kd.int .u64) 22 w49 w.heap.size (fun k_ => some k_ ≠ (v167 : Value).ownBlock ∧ k_ ≠ gb150 ∧ k_ ≠ gb170) (.slice Ao43 x151003_2.length co43) x151003_2) := ⟨(by rw [hw]; exact (by (with_reducible repeat (first | apply Kd.V_alloc | apply Kd.V_drewN | apply Kd.V_drew)); exact Kd.V_mono (Kd.V_far (p := ⟨gb170, 3, none⟩) (Kd.V_far (p := ⟨gb170, 2, none⟩) (Kd.V_far (p := ⟨gb170, 1, none⟩) (Kd.V_far (p := ⟨gb170, 0, none⟩) (Kd.V_mono HO_151003.out (fun k_ hk => (⟨hk, hk.2⟩ : _ ∧ k_ ≠ gb170))) (fun _ hk => hk.2) (.bool t160)) (fun _ hk => hk.2) (.int .u64 t161)) (fun _ hk => hk.2) (.int .u64 t162)) (fun _ hk => hk.2) (.slice Ao48 t163.length co48)) (fun _ hk => ⟨hk.1.1.2, ⟨hk.1.1.1, hk.1.2⟩⟩)))⟩; have n1_ : Aside0 (Kd.V (Kd.int .u64) 22 w49 w.heap.size (fun k_ => some k_ ≠ (v167 : Value).ownBlock ∧ k_ ≠ gb150 ∧ k_ ≠ gb170) (.slice Ao48 t163.length co48) t163) := ⟨(by rw [hw]; exact (by (with_reducible repeat (first | apply Kd.V_alloc | apply Kd.V_drewN | apply Kd.V_drew)); exact Kd.V_mono (Kd.V_far (p := ⟨gb170, 3, none⟩) (Kd.V_far (p := ⟨gb170, 2, none⟩) (Kd.V_far (p := ⟨gb170, 1, none⟩) (Kd.V_far (p := ⟨gb170, 0, none⟩) (Kd.V_mono HO165.out (fun k_ hk => (⟨hk, hk.2⟩ : _ ∧ k_ ≠ gb170))) (fun _ hk => hk.2) (.bool t160)) (fun _ hk => hk.2) (.int .u64 t161)) (fun _ hk => hk.2) (.int .u64 t162)) (fun _ hk => hk.2) (.slice Ao48 t163.length co48)) (fun _ hk => ⟨hk.1.1.1, ⟨hk.1.1.2, hk.1.2⟩⟩)))⟩; have n2_ : Aside0 (Kd.R (Kd.int .u64) 22 w49 w.heap.size (fun _ => True) v167 t166) := ⟨(by rw [hw]; exact (by (with_reducible repeat (first | apply Kd.R_alloc | apply Kd.R_drewN | apply Kd.R_drew)); exact Kd.R_mono (Kd.R_far (p := ⟨gb170, 3, none⟩) (Kd.R_far (p := ⟨gb170, 2, none⟩) (Kd.R_far (p := ⟨gb170, 1, none⟩) (Kd.R_far (p := ⟨gb170, 0, none⟩) (Kd.R_types HO168.out BK170.out (by decide)) (fun _ hk => hk.2) (.bool t160)) (fun _ hk => hk.2) (.int .u64 t161)) (fun _ hk => hk.2) (.int .u64 t162)) (fun _ hk => hk.2) (.slice Ao48 t163.length co48)) (fun _ hk => trivial)))⟩; have n3_ : Aside0 (w49.heap[gb150]? = some (.cells #[.bool x151000_2, .int .u64 x151001_2, .int .u64 x151002_2, .slice Ao43 x151003_2.length co43] 26 (0, 0))) := ⟨(by rw [hw]; exact (by (with_reducible repeat (first | refine blk_drewN ?_ _ | refine blk_drew ?_ | refine blk_alloc ?_ _)); refine blk_far ?_ NB150_170.out _; (with_reducible repeat (first | refine blk_drewN ?_ _ | refine blk_drew ?_ | refine blk_alloc ?_ _)); refine blk_far ?_ NB150_170.out _; (with_reducible repeat (first | refine blk_drewN ?_ _ | refine blk_drew ?_ | refine blk_alloc ?_ _)); refine blk_far ?_ NB150_170.out _; (with_reducible repeat (first | refine blk_drewN ?_ _ | refine blk_drew ?_ | refine blk_alloc ?_ _)); refine blk_far ?_ NB150_170.out _; (with_reducible repeat (first | refine blk_drewN ?_ _ | refine blk_drew ?_ | refine blk_alloc ?_ _)); exact BK150.out))⟩; have n4_ : Aside0 (w49.heap[gb170]? = some (.cells #[.bool t160, .int .u64 t161, .int .u64 t162, .slice Ao48 t163.length co48] 26 (0, 0))) := ⟨(by rw [hw]; exact (by (with_reducible repeat (first | refine blk_drewN ?_ _ | refine blk_drew ?_ | refine blk_alloc ?_ _)); refine blk_put (cs := #[.bool t160, .int .u64 t161, .int .u64 t162, .slice none 0 0]) ?_ 3 _ rfl; (with_reducible repeat (first | refine blk_drewN ?_ _ | refine blk_drew ?_ | refine blk_alloc ?_ _)); refine blk_put (cs := #[.bool t160, .int .u64 t161, .int .u64 0, .slice none 0 0]) ?_ 2 _ rfl; (with_reducible repeat (first | refine blk_drewN ?_ _ | refine blk_drew ?_ | refine blk_alloc ?_ _)); refine blk_put (cs := #[.bool t160, .int .u64 0, .int .u64 0, .slice none 0 0]) ?_ 1 _ rfl; (with_reducible repeat (first | refine blk_drewN ?_ _ | refine blk_drew ?_ | refine blk_alloc ?_ _)); refine blk_put (cs := #[.bool false, .int .u64 0, .int .u64 0, .slice none 0 0]) ?_ 0 _ rfl; (with_reducible repeat (first | refine blk_drewN ?_ _ | refine blk_drew ?_ | refine blk_alloc ?_ _)); exact BK170.out))⟩; have n5_ : Aside0 (Below w.heap.size w w49) := ⟨(by rw [hw]; exact (by repeat (first | (with_reducible first | exact HB.out | apply below_alloc | apply pw_below_drewN | apply below_drew1 | refine below_set ?_ GE150.out | refine below_set ?_ GE170.out) | exact HB.out)))⟩; clear hw; clear HO_151003; clear HO165; clear HO168; clear BK150; clear BK170; clear HB; have HO_151003 := n0_; have HO165 := n1_; have HO168 := n2_; have BK150 := n3_; have BK170 := n4_; have HB := n5_; clear n0_ n1_ n2_ n3_ n4_ n5_; have hcz50_0 : w49.cell? ⟨gb150, 0, none⟩ = some (.bool x151000_2) := (blk_cell BK150.out 0).trans rfl; have hcz50_1 : w49.cell? ⟨gb150, 1, none⟩ = some (.int .u64 x151001_2) := (blk_cell BK150.out 1).trans rfl; have hcz50_2 : w49.cell? ⟨gb150, 2, none⟩ = some (.int .u64 x151002_2) := (blk_cell BK150.out 2).trans rfl; have hcz50_3 : w49.cell? ⟨gb150, 3, none⟩ = some (.slice Ao43 x151003_2.length co43) := (blk_cell BK150.out 3).trans rfl; have hfz50_0 := blk_frozen BK150.out 0; have hfz50_1 := blk_frozen BK150.out 1; have hfz50_2 := blk_frozen BK150.out 2; have hfz50_3 := blk_frozen BK150.out 3) | ((with_reducible refine gate_callee (f := 12) rfl ?_); refine goesL_ (some 90) rfl rfl Try.func12 (by kernel_rfl) rfl #[.agg #[.bool x151000_2, .int .u64 x151001_2, .int .u64 x151002_2, .slice Ao43 x151003_2.length co43], .int .u64 (IntKind.u64.wrap (a0 + (IntKind.u64.wrap (a2)))), .bool true] rfl (by (try simp only [List.map_toArray, List.map_cons, List.map_nil]); first | done | rfl | (simp only [List.length_drop, List.length_take]; rfl)) ?_; (with_reducible refine (seq_Confirm.calls x151000_2 x151001_2 x151002_2 (fun k_ => (some k_ ≠ (v167 : Value).ownBlock ∧ (k_ ≠ gb150 ∧ k_ ≠ gb170))) _ _ x151003_2 (IntKind.u64.wrap (a0 + (IntKind.u64.wrap (a2)))) true t171 t172 t173 t174 t177 t180 _ ?side1 A34.out).mono ?_); (case side1 => exact HO_151003.out); rintro e w51 ⟨v175, v178, rfl, ho0, ho1, hb⟩; refine ⟨_, rfl, ?_⟩; have n0_ := Aside0.mk (Kd.V_elder' (by (with_reducible repeat (first | apply Kd.V_alloc | apply Kd.V_drewN | apply Kd.V_drew)); exact HO_151003.out) (Kd.R_base ho1) hb); have n1_ := Aside0.mk (Kd.V_elder' (by (with_reducible repeat (first | apply Kd.V_alloc | apply Kd.V_drewN | apply Kd.V_drew)); exact HO165.out) (Kd.R_base ho1) hb); have n2_ := Aside0.mk (Kd.R_elder' (by (with_reducible repeat (first | apply Kd.R_alloc | apply Kd.R_drewN | apply Kd.R_drew)); exact HO168.out) (Kd.R_base ho1) hb); have n3_ := Aside0.mk (Kd.V_lower (Kd.V_mono (ok' := fun k_ => some k_ ≠ (v178 : Value).ownBlock ∧ some k_ ≠ (v167 : Value).ownBlock ∧ k_ ≠ gb150 ∧ k_ ≠ gb170) ho0 (fun k_ hk_ => ⟨hk_.2, Or.elim hk_.1 (fun hs_ => hs_.1) (fun hn_ => (Kd.fresh' (Kd.R_lt (by (with_reducible repeat (first | apply Kd.R_alloc | apply Kd.R_drewN | apply Kd.R_drew)); exact HO168.out)) k_ hn_)), Or.elim hk_.1 (fun hs_ => hs_.2.1) (fun hn_ => (Kd.freshB (g := gb150) (o := .cells #[.bool x151000_2, .int .u64 x151001_2, .int .u64 x151002_2, .slice Ao43 x151003_2.length co43] 26 (0, 0)) (by (with_reducible repeat (first | refine blk_drewN ?_ _ | refine blk_drew ?_ | refine blk_alloc ?_ _)); exact BK150.out) k_ hn_)), Or.elim hk_.1 (fun hs_ => hs_.2.2) (fun hn_ => (Kd.freshB (g := gb170) (o := .cells #[.bool t160, .int .u64 t161, .int .u64 t162, .slice Ao48 t163.length co48] 26 (0, 0)) (by (with_reducible repeat (first | refine blk_drewN ?_ _ | refine blk_drew ?_ | refine blk_alloc ?_ _)); exact BK170.out) k_ hn_))⟩)) (below_size (by repeat (first | (with_reducible first | exact HB.out | apply below_alloc | apply pw_below_drewN | apply below_drew1 | refine below_set ?_ GE150.out | refine below_set ?_ GE170.out) | exact HB.out)))); have n4_ := Aside0.mk (Kd.R_lower (Kd.R_new' (Kd.R_mono (ok' := fun k_ => True) ho1 (fun _ hk_ => trivial)) (Kd.R_lt (by (with_reducible repeat (first | apply Kd.R_alloc | apply Kd.R_drewN | apply Kd.R_drew)); exact HO168.out))) (below_size (by repeat (first | (with_reducible first | exact HB.out | apply below_alloc | apply pw_below_drewN | apply below_drew1 | refine below_set ?_ GE150.out | refine below_set ?_ GE170.out) | exact HB.out)))); have n5_ := Aside0.mk (blk_below (g := gb150) (o := .cells #[.bool x151000_2, .int .u64 x151001_2, .int .u64 x151002_2, .slice Ao43 x151003_2.length co43] 26 (0, 0)) (by (with_reducible repeat (first | refine blk_drewN ?_ _ | refine blk_drew ?_ | refine blk_alloc ?_ _)); exact BK150.out) hb); have n6_ := Aside0.mk (blk_below (g := gb170) (o := .cells #[.bool t160, .int .u64 t161, .int .u64 t162, .slice Ao48 t163.length co48] 26 (0, 0)) (by (with_reducible repeat (first | refine blk_drewN ?_ _ | refine blk_drew ?_ | refine blk_alloc ?_ _)); exact BK170.out) hb); have n7_ := Aside0.mk (below_step (by repeat (first | (with_reducible first | exact HB.out | apply below_alloc | apply pw_below_drewN | apply below_drew1 | refine below_set ?_ GE150.out | refine below_set ?_ GE170.out) | exact HB.out)) hb); clear HO_151003; clear HO165; clear HO168; clear BK150; clear BK170; clear HB; have HO_151003 := n0_; have HO165 := n1_; have HO168 := n2_; have HO176 := n3_; have HO179 := n4_; have BK150 := n5_; have BK170 := n6_; have HB := n7_; clear n0_ n1_ n2_ n3_ n4_ n5_ n6_ n7_; (try clear hb); (try clear hb2); (try clear hk); (try clear hi); (try clear ho0); (try clear ho1)) | ((with_reducible refine gate_dst (N := 17) rfl ?_); (try (refine gate_guard (by rfl) ?_; dsimp only)); refine box_event ?hg (N := 17) ?hd (cs := #[.bool false, .int .u64 0, .int .u64 0, .slice none 0 0]) (t := 26) ?hr ?_; (case hd => rfl); (case hg => rfl); (case hr => first | (go_simp; done) | (go_simp; rfl)); intro gb181 hg w52 hbox hb; have n0_ := Aside0.mk (Kd.V_below (Kd.V_elderB (by (with_reducible repeat (first | apply Kd.V_alloc | apply Kd.V_drewN | apply Kd.V_drew)); exact HO_151003.out) gb181 (Nat.le_of_eq hg.symm)) hb); have n1_ := Aside0.mk (Kd.V_below (Kd.V_elderB (by (with_reducible repeat (first | apply Kd.V_alloc | apply Kd.V_drewN | apply Kd.V_drew)); exact HO165.out) gb181 (Nat.le_of_eq hg.symm)) hb); have n2_ := Aside0.mk (Kd.R_below (by (with_reducible repeat (first | apply Kd.R_alloc | apply Kd.R_drewN | apply Kd.R_drew)); exact HO168.out) hb); have n3_ := Aside0.mk (Kd.V_below (Kd.V_elderB (by (with_reducible repeat (first | apply Kd.V_alloc | apply Kd.V_drewN | apply Kd.V_drew)); exact HO176.out) gb181 (Nat.le_of_eq hg.symm)) hb); have n4_ := Aside0.mk (Kd.R_below (by (with_reducible repeat (first | apply Kd.R_alloc | apply Kd.R_drewN | apply Kd.R_drew)); exact HO179.out) hb); have n5_ := Aside0.mk (blk_below (g := gb150) (o := .cells #[.bool x151000_2, .int .u64 x151001_2, .int .u64 x151002_2, .slice Ao43 x151003_2.length co43] 26 (0, 0)) (by (with_reducible repeat (first | refine blk_drewN ?_ _ | refine blk_drew ?_ | refine blk_alloc ?_ _)); exact BK150.out) hb); have n6_ := Aside0.mk (blk_below (g := gb170) (o := .cells #[.bool t160, .int .u64 t161, .int .u64 t162, .slice Ao48 t163.length co48] 26 (0, 0)) (by (with_reducible repeat (first | refine blk_drewN ?_ _ | refine blk_drew ?_ | refine blk_alloc ?_ _)); exact BK170.out) hb); have n7_ := Aside0.mk (below_step (by repeat (first | (with_reducible first | exact HB.out | apply below_alloc | apply pw_below_drewN | apply below_drew1 | refine below_set ?_ GE150.out | refine below_set ?_ GE170.out) | exact HB.out)) hb); have n8_ := Aside0.mk (hbox); have n9_ := Aside0.mk ((by rw [hg]; exact (below_size (by repeat (first | (with_reducible first | exact HB.out | apply below_alloc | apply pw_below_drewN | apply below_drew1 | refine below_set ?_ GE150.out | refine below_set ?_ GE170.out) | exact HB.out))) : w.heap.size ≤ gb181)); have n10_ := Aside0.mk ((by rw [hg]; exact (below_size (by repeat (first | (with_reducible first | exact HB.out | apply below_alloc | apply pw_below_drewN | apply below_drew1 | refine below_set ?_ GE150.out | refine below_set ?_ GE170.out) | exact HB.out))) : w.heap.size ≤ gb181)); have n11_ := Aside0.mk ((by rw [hg]; exact Nat.ne_of_lt (blk_lt (g := gb150) (o := .cells #[.bool x151000_2, .int .u64 x151001_2, .int .u64 x151002_2, .slice Ao43 x151003_2.length co43] 26 (0, 0)) (by (with_reducible repeat (first | refine blk_drewN ?_ _ | refine blk_drew ?_ | refine blk_alloc ?_ _)); exact BK150.out)) : gb150 ≠ gb181)); have n12_ := Aside0.mk ((by rw [hg]; exact Nat.ne_of_gt (blk_lt (g := gb150) (o := .cells #[.bool x151000_2, .int .u64 x151001_2, .int .u64 x151002_2, .slice Ao43 x151003_2.length co43] 26 (0, 0)) (by (with_reducible repeat (first | refine blk_drewN ?_ _ | refine blk_drew ?_ | refine blk_alloc ?_ _)); exact BK150.out)) : gb181 ≠ gb150)); have n13_ := Aside0.mk ((by rw [hg]; exact Nat.ne_of_lt (blk_lt (g := gb170) (o := .cells #[.bool t160, .int .u64 t161, .int .u64 t162, .slice Ao48 t163.length co48] 26 (0, 0)) (by (with_reducible repeat (first | refine blk_drewN ?_ _ | refine blk_drew ?_ | refine blk_alloc ?_ _)); exact BK170.out)) : gb170 ≠ gb181)); have n14_ := Aside0.mk ((by rw [hg]; exact Nat.ne_of_gt (blk_lt (g := gb170) (o := .cells #[.bool t160, .int .u64 t161, .int .u64 t162, .slice Ao48 t163.length co48] 26 (0, 0)) (by (with_reducible repeat (first | refine blk_drewN ?_ _ | refine blk_drew ?_ | refine blk_alloc ?_ _)); exact BK170.out)) : gb181 ≠ gb170)); clear HO_151003; clear HO165; clear HO168; clear HO176; clear HO179; clear BK150; clear BK170; clear HB; have HO_151003 := n0_; have HO165 := n1_; have HO168 := n2_; have HO176 := n3_; have HO179 := n4_; have BK150 := n5_; have BK170 := n6_; have HB := n7_; have BK181 := n8_; have GW181 := n9_; have GE181 := n10_; have NB150_181 := n11_; have NB181_150 := n12_; have NB170_181 := n13_; have NB181_170 := n14_; clear n0_ n1_ n2_ n3_ n4_ n5_ n6_ n7_ n8_ n9_ n10_ n11_ n12_ n13_ n14_; clear hb hbox hg; have hnb53 := NB181_150.out; have hnc53 := NB150_181.out; have hnb54 := NB181_170.out; have hnc54 := NB170_181.out; have hcz55_0 : w52.cell? ⟨gb181, 0, none⟩ = some (.bool false) := (blk_cell BK181.out 0).trans rfl; have hcz55_1 : w52.cell? ⟨gb181, 1, none⟩ = some (.int .u64 0) := (blk_cell BK181.out 1).trans rfl; have hcz55_2 : w52.cell? ⟨gb181, 2, none⟩ = some (.int .u64 0) := (blk_cell BK181.out 2).trans rfl; have hcz55_3 : w52.cell? ⟨gb181, 3, none⟩ = some (.slice none 0 0) := (blk_cell BK181.out 3).trans rfl; have hfz55_0 := blk_frozen BK181.out 0; have hfz55_1 := blk_frozen BK181.out 1; have hfz55_2 := blk_frozen BK181.out 2; have hfz55_3 := blk_frozen BK181.out 3; obtain ⟨Ao56, co56, eo56⟩ := Kd.V_slice HO176.out; subst eo56; obtain ⟨Ao57, co57, eo57⟩ := Kd.R_slice HO168.out; subst eo57; have p182 : 0 ≤ (0 : Int) := (by omega); have q182 : 0 < (t166.length : Int) := of_decide_eq_true (by first | (with_reducible assumption) | assumption); obtain ⟨ad182, e182, hx182_0⟩ := Kd.at_int (Kd.R_reads' HO168.out).2.2 0 p182 q182; cases e182; have qi182 : (0 < t166.length) = True := eq_true (by omega); (try rw [show ((0 : Int)).toNat = 0 from rfl] at hx182_0); (try rw [Addr.add_zero'] at hx182_0); have hn182_0 : ad182.block ≠ gb181 := Kd.own_blk (Kd.R_ne HO168.out BK181.out (by decide)); have hn182_1 : ad182.block ≠ gb181 := Kd.own_blk (Kd.R_ne HO168.out BK181.out (by decide)); have hn182_2 : ad182.block ≠ gb181 := Kd.own_blk (Kd.R_ne HO168.out BK181.out (by decide)); have hn182_3 : ad182.block ≠ gb181 := Kd.own_blk (Kd.R_ne HO168.out BK181.out (by decide)); replace hx182_0 := (cell_far (p := ⟨gb181, 0, none⟩) (by first | (rw [add_block]; exact hn182_0) | (show (Addr.add _ _).block ≠ _; rw [add_block]; exact hn182_0) | exact hn182_0) (.bool t171)).trans hx182_0; replace hx182_0 := (cell_far (p := ⟨gb181, 1, none⟩) (by first | (rw [add_block]; exact hn182_1) | (show (Addr.add _ _).block ≠ _; rw [add_block]; exact hn182_1) | exact hn182_1) (.int .u64 t172)).trans hx182_0; replace hx182_0 := (cell_far (p := ⟨gb181, 2, none⟩) (by first | (rw [add_block]; exact hn182_2) | (show (Addr.add _ _).block ≠ _; rw [add_block]; exact hn182_2) | exact hn182_2) (.int .u64 t173)).trans hx182_0; replace hx182_0 := (cell_far (p := ⟨gb181, 3, none⟩) (by first | (rw [add_block]; exact hn182_3) | (show (Addr.add _ _).block ≠ _; rw [add_block]; exact hn182_3) | exact hn182_3) (.slice Ao56 t174.length co56)).trans hx182_0; clear hn182_0; clear hn182_1; clear hn182_2; clear hn182_3; replace p182 := eq_true p182; replace q182 := eq_true q182; obtain ⟨Ao58, co58, eo58⟩ := Kd.R_slice HO179.out; subst eo58))
                                  go_ret
                                  exact ⟨by first | rfl | (simp [errW_none, errW_some] <;> rfl) | (simp [*, errW_none, errW_some] <;> rfl) | (exfalso; simp only [decide_eq_true_eq, decide_eq_false_iff_not, beq_iff_eq, bne_iff_ne, ne_eq, beq_eq_false_iff_ne, bne_eq_false_iff_eq] at *; omega), by repeat (first | (with_reducible first | exact HB.out | apply below_alloc | apply pw_below_drewN | apply below_drew1 | refine below_set ?_ GE150.out | refine below_set ?_ GE170.out | refine below_set ?_ GE181.out) | exact HB.out)⟩
                                · rw [if_neg c41] at H
                                  exact absurd ((Option.some.inj H).trans hT_.out) (by decide)
                              · rw [if_neg c40] at H
                                exact absurd ((Option.some.inj H).trans hT_.out) (by decide)
                            · rw [if_neg c39] at H
                              exact absurd ((Option.some.inj H).trans hT_.out) (by decide)
                          · rw [if_neg c38] at H
                            exact absurd H (by simp)
                        · rw [if_neg c37] at H
                          exact absurd ((Option.some.inj H).trans hT_.out) (by decide)
                      · rw [if_neg c36] at H
                        exact absurd ((Option.some.inj H).trans hT_.out) (by decide)
/-- THE ONE PURE STATEMENT of interchangelaw16_SeqRises: yours. -/
def interchangelaw16_SeqRises.Pure : Prop := ∀ (a0 : Int) (a1 : Int) (a2 : Int), (Lit.int .u64 a0).wf = true → (Lit.int .i64 a1).wf = true → (Lit.int .i64 a2).wf = true → ∃ k, interchangelaw16_SeqRises.f k a0 a1 a2 = some true
theorem interchangelaw16_SeqRises.walk (P : interchangelaw16_SeqRises.Pure) (a0 : Int) (a1 : Int) (a2 : Int) (w : World) (w0 : (Lit.int .u64 a0).wf = true) (w1 : (Lit.int .i64 a1).wf = true) (w2 : (Lit.int .i64 a2).wf = true) :
    Calls Try.prog 3 #[.int .u64 a0, .int .i64 a1, .int .i64 a2] w fun e w' => e = .returned (.bool true) ∧ Below w.heap.size w w' := by
  obtain ⟨k, h⟩ := P a0 a1 a2 w0 w1 w2
  refine (interchangelaw16_SeqRises.calls k a0 a1 a2 true w ⟨rfl⟩ h).mono ?_
  rintro e w' ⟨rfl, hd⟩
  exact ⟨rfl, hd⟩

end Go.Proofs.Ytngbkagamhakiaa.Q
