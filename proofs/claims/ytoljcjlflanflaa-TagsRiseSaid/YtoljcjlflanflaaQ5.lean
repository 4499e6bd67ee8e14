/- This text was written by a program of this session: what each Go function computes, as a Lean function, and that its call does so. -/
import Derived.Test.YtoljcjlflanflaaQ0
import Derived.Test.YtoljcjlflanflaaQ14
import Derived.Test.YtoljcjlflanflaaQ9
import Derived.Test.YtoljcjlflanflaaH9
import Derived.Test.YtoljcjlflanflaaH11
import Derived.Test.YtoljcjlflanflaaH15
namespace Go.Proofs.Ytoljcjlflanflaa.Q
open Go.RowKit Go.Proofs.YtoljcjlflanflaaW.PrintWords Go.Proofs.YtoljcjlflanflaaW.PrintLast Go.Proofs.YtoljcjlflanflaaW.PrintMore
attribute [local go_sem] max2_int min2_int max_two min_two max_three min_three max_four min_four   -- for this text's walks alone
set_option linter.unusedVariables false
set_option linter.unusedSimpArgs false

/-! ### interchangelaw15_TagsRise: function 5 -/
mutual
def interchangelaw15_TagsRise.l0 : Nat → List Int → Int → Bool → List Int → Int → Int → Int → List (S47) → Option (Bool)
  | 0, _, _, _, _, _, _, _, _ => none
  | k + 1, x0, x1, x5, x7, x8, x199000, x199001, x199002 => if x8 < (x0.length : Int) then (if 0 ≤ x8 then ((tags_Deliver.f x199000 x199001 x199002 (rd x0 x8) 500).bind fun bt203 => (if (x7.length : Int) > 0 then (if 0 ≤ (wrap64 ((x7.length : Int) - 1)) then (if (wrap64 ((x7.length : Int) - 1)) < (x7.length : Int) then (interchangelaw15_TagsRise.j1 k x0 x1 x5 x7 x8 bt203.2.2.2.1 bt203.2.2.2.2 (rd x7 (wrap64 ((x7.length : Int) - 1))) bt203.1 bt203.2.1 bt203.2.2.1) else (none)) else (none)) else (interchangelaw15_TagsRise.j1 k x0 x1 x5 x7 x8 bt203.2.2.2.1 bt203.2.2.2.2 0 bt203.1 bt203.2.1 bt203.2.2.1))) else (none)) else (if x1 < 0 then (some x5) else (if x1 ≥ (x7.length : Int) then (some x5) else ((tags_Find.f x199000 x199001 x199002 (IntKind.u64.wrap ((IntKind.u64.wrap (x1)) + 1))).bind fun bt199 => (if x5 = true then (if bt199.2 = true then (if 0 ≤ x1 then (if x1 < (x7.length : Int) then (some (bt199.1 == (rd x7 x1))) else (none)) else (none)) else (some false)) else (some false)))))
def interchangelaw15_TagsRise.j1 : Nat → List Int → Int → Bool → List Int → Int → Int → Int → Int → Int → Int → List (S47) → Option (Bool)
  | 0, _, _, _, _, _, _, _, _, _, _, _ => none
  | k + 1, x0, x1, x5, x7, x8, x10, x11, x12, x211000, x211001, x211002 => if 0 ≤ x8 then (if x8 < (x0.length : Int) then (if ((x11 == 0) != (decide ((rd x0 x8) > x12))) = true then (interchangelaw15_TagsRise.j2 k x0 x1 x5 x7 x8 x11 true x211000 x211001 x211002) else (if x11 = 0 then (interchangelaw15_TagsRise.j2 k x0 x1 x5 x7 x8 x11 (x10 != (IntKind.u64.wrap ((IntKind.u64.wrap ((x7.length : Int))) + 1))) x211000 x211001 x211002) else (interchangelaw15_TagsRise.j2 k x0 x1 x5 x7 x8 x11 false x211000 x211001 x211002))) else (none)) else (none)
def interchangelaw15_TagsRise.j2 : Nat → List Int → Int → Bool → List Int → Int → Int → Bool → Int → Int → List (S47) → Option (Bool)
  | 0, _, _, _, _, _, _, _, _, _, _ => none
  | k + 1, x0, x1, x5, x7, x8, x11, x66, x211000, x211001, x211002 => if x66 = true then (some false) else (if x11 = 0 then (if 0 ≤ x8 then (if x8 < (x0.length : Int) then (if x7.length < 17592186044416 then (interchangelaw15_TagsRise.l0 k x0 x1 x5 (x7 ++ [rd x0 x8]) (wrap64 (x8 + 1)) x211000 x211001 x211002) else (none)) else (none)) else (none)) else (interchangelaw15_TagsRise.l0 k x0 x1 x5 x7 (wrap64 (x8 + 1)) x211000 x211001 x211002))
end
def interchangelaw15_TagsRise.f (k : Nat) (l0 : List Int) (a1 : Int) : Option (Bool) := (interchangelaw15_shown.f).bind fun t192 => (if (l0.length : Int) > 200 then (some true) else ((tags_New.f).bind fun bt193 => (interchangelaw15_TagsRise.l0 k l0 a1 true ([] : List Int) 0 bt193.1 bt193.2.1 bt193.2.2)))
theorem interchangelaw15_TagsRise.mono_l : ∀ k, (∀ y0 y1 y2 y3 y4 y5 y6 y7, LeO (interchangelaw15_TagsRise.l0 k y0 y1 y2 y3 y4 y5 y6 y7) (interchangelaw15_TagsRise.l0 (k + 1) y0 y1 y2 y3 y4 y5 y6 y7)) ∧ (∀ y0 y1 y2 y3 y4 y5 y6 y7 y8 y9 y10, LeO (interchangelaw15_TagsRise.j1 k y0 y1 y2 y3 y4 y5 y6 y7 y8 y9 y10) (interchangelaw15_TagsRise.j1 (k + 1) y0 y1 y2 y3 y4 y5 y6 y7 y8 y9 y10)) ∧ (∀ y0 y1 y2 y3 y4 y5 y6 y7 y8 y9, LeO (interchangelaw15_TagsRise.j2 k y0 y1 y2 y3 y4 y5 y6 y7 y8 y9) (interchangelaw15_TagsRise.j2 (k + 1) y0 y1 y2 y3 y4 y5 y6 y7 y8 y9))
  | 0 => ⟨fun _ _ _ _ _ _ _ _ r h => by simp [interchangelaw15_TagsRise.l0] at h, fun _ _ _ _ _ _ _ _ _ _ _ r h => by simp [interchangelaw15_TagsRise.j1] at h, fun _ _ _ _ _ _ _ _ _ _ r h => by simp [interchangelaw15_TagsRise.j2] at h⟩
  | k + 1 => by
    obtain ⟨ih0, ih1, ih2⟩ := interchangelaw15_TagsRise.mono_l k
    refine ⟨?_, ?_, ?_⟩
    · intro y0 y1 y2 y3 y4 y5 y6 y7
      unfold interchangelaw15_TagsRise.l0
      repeat' first
      | (with_reducible exact ih0 _ _ _ _ _ _ _ _)
      | (with_reducible exact ih1 _ _ _ _ _ _ _ _ _ _ _)
      | (with_reducible exact ih2 _ _ _ _ _ _ _ _ _ _)
      | (with_reducible exact LeO.refl _)
      | (with_reducible exact LeO.none _)
      | (with_reducible refine LeO.ite ?_ ?_)
      | (with_reducible refine LeO.bind ?_ (fun _ => ?_))
      | exact ih0 _ _ _ _ _ _ _ _
      | exact ih1 _ _ _ _ _ _ _ _ _ _ _
      | exact ih2 _ _ _ _ _ _ _ _ _ _
      | exact LeO.none _
      | refine LeO.ite ?_ ?_
      | refine LeO.bind ?_ (fun _ => ?_)
    · intro y0 y1 y2 y3 y4 y5 y6 y7 y8 y9 y10
      unfold interchangelaw15_TagsRise.j1
      repeat' first
      | (with_reducible exact ih0 _ _ _ _ _ _ _ _)
      | (with_reducible exact ih1 _ _ _ _ _ _ _ _ _ _ _)
      | (with_reducible exact ih2 _ _ _ _ _ _ _ _ _ _)
      | (with_reducible exact LeO.refl _)
      | (with_reducible exact LeO.none _)
      | (with_reducible refine LeO.ite ?_ ?_)
      | (with_reducible refine LeO.bind ?_ (fun _ => ?_))
      | exact ih0 _ _ _ _ _ _ _ _
      | exact ih1 _ _ _ _ _ _ _ _ _ _ _
      | exact ih2 _ _ _ _ _ _ _ _ _ _
      | exact LeO.none _
      | refine LeO.ite ?_ ?_
      | refine LeO.bind ?_ (fun _ => ?_)
    · intro y0 y1 y2 y3 y4 y5 y6 y7 y8 y9
      unfold interchangelaw15_TagsRise.j2
      repeat' first
      | (with_reducible exact ih0 _ _ _ _ _ _ _ _)
      | (with_reducible exact ih1 _ _ _ _ _ _ _ _ _ _ _)
      | (with_reducible exact ih2 _ _ _ _ _ _ _ _ _ _)
      | (with_reducible exact LeO.refl _)
      | (with_reducible exact LeO.none _)
      | (with_reducible refine LeO.ite ?_ ?_)
      | (with_reducible refine LeO.bind ?_ (fun _ => ?_))
      | exact ih0 _ _ _ _ _ _ _ _
      | exact ih1 _ _ _ _ _ _ _ _ _ _ _
      | exact ih2 _ _ _ _ _ _ _ _ _ _
      | exact LeO.none _
      | refine LeO.ite ?_ ?_
      | refine LeO.bind ?_ (fun _ => ?_)
theorem interchangelaw15_TagsRise.mono : ∀ a0 a1 k, LeO (interchangelaw15_TagsRise.f k a0 a1) (interchangelaw15_TagsRise.f (k + 1) a0 a1) := by
  intro a0 a1 k
  obtain ⟨ih0, ih1, ih2⟩ := interchangelaw15_TagsRise.mono_l k
  unfold interchangelaw15_TagsRise.f
  repeat' first
      | (with_reducible exact ih0 _ _ _ _ _ _ _ _)
      | (with_reducible exact ih1 _ _ _ _ _ _ _ _ _ _ _)
      | (with_reducible exact ih2 _ _ _ _ _ _ _ _ _ _)
      | (with_reducible exact LeO.refl _)
      | (with_reducible exact LeO.none _)
      | (with_reducible refine LeO.ite ?_ ?_)
      | (with_reducible refine LeO.bind ?_ (fun _ => ?_))
      | exact ih0 _ _ _ _ _ _ _ _
      | exact ih1 _ _ _ _ _ _ _ _ _ _ _
      | exact ih2 _ _ _ _ _ _ _ _ _ _
      | exact LeO.none _
      | refine LeO.ite ?_ ?_
      | refine LeO.bind ?_ (fun _ => ?_)
def interchangelaw15_TagsRise.T9 : Bool × List (List Nat × List Nat) := (true, [([], []), ([], []), ([], []), ([1, 2], [1, 2]), ([3], [3]), ([0, 4], [0, 4]), ([5], [5]), ([6], [6]), ([6], [6]), ([6], [6]), ([], []), ([10, 7, 5, 0, 1, 2, 3, 4, 5, 6, 7, 10], [7, 10]), ([8, 11, 0, 1, 2, 3, 4, 5, 6, 7, 8, 10, 11], [8]), ([9, 12, 0, 1, 2, 3, 4, 5, 6, 7, 8, 9, 10, 11, 12], [9])])
def interchangelaw15_TagsRise.B9 : List Nat := [0, 0, 0, 6, 14, 31, 63, 127, 127, 127, 0, 1279, 3583, 8191]
theorem interchangelaw15_TagsRise.tab9 : rtab .any (opsOf Try.f5 9) = interchangelaw15_TagsRise.T9 := by kernel_rfl
theorem interchangelaw15_TagsRise.bits9 : waitsOk interchangelaw15_TagsRise.T9.2 interchangelaw15_TagsRise.B9 = true := by kernel_rfl
set_option maxHeartbeats 8000000 in
set_option maxRecDepth 100000 in
theorem interchangelaw15_TagsRise.calls (k : Nat) (A0 : Option Addr) (c0 : Nat) (l0 : List Int) (a1 : Int) (r : Bool) (w : World) (hr0 : Kd.C (Kd.int .u64) w A0 l0.length l0) (hc0 : l0.length ≤ c0) (hT_ : Aside0 (r = true)) (h : interchangelaw15_TagsRise.f k l0 a1 = some r) :
    Calls Try.prog 5 #[.slice A0 l0.length c0, .int .i64 a1] w fun e w' => e = .returned (.bool r) ∧ Below w.heap.size w w' := by
  have hu25 := Try.underlying25
  have HR0 := Aside0.mk hr0
  have HC0 := Aside0.mk hc0
  clear hr0 hc0
  have HB := Aside0.mk (Below.refl w.heap.size w)
  have H : ((interchangelaw15_shown.f).bind fun t192 => (if (l0.length : Int) > 200 then (some true) else ((tags_New.f).bind fun bt193 => (interchangelaw15_TagsRise.l0 k l0 a1 true ([] : List Int) 0 bt193.1 bt193.2.1 bt193.2.2)))) = some r := h
  clear h
  replace H := Option.bind_eq_some_iff.mp H
  obtain ⟨t192, A30, H⟩ := H
  replace H : (if (l0.length : Int) > 200 then (some true) else ((tags_New.f).bind fun bt193 => (interchangelaw15_TagsRise.l0 k l0 a1 true ([] : List Int) 0 bt193.1 bt193.2.1 bt193.2.2))) = some r := H
  obtain rfl : true = t192 := Option.some.inj (interchangelaw15_shown_true.symm.trans A30)
  have A3 := Aside0.mk A30
  clear A30
  by_cases c4 : (l0.length : Int) > 200
  · rw [if_pos c4] at H
    have c4b0 : decide (200 < (l0.length : Int)) = true := decide_eq_true c4
    have c4b1 : decide (200 < l0.length) = true := decide_eq_true (by omega)
    clear c4
    obtain rfl := Option.some.inj H
    go_enter Try.func5, Try.ntmps5
    go_wp2_with (first | ((with_reducible refine gate_callee (f := 9) rfl ?_); refine goesL_ (some 15) rfl rfl Try.func9 (by kernel_rfl) rfl #[] rfl (by (try simp only [List.map_toArray, List.map_cons, List.map_nil]); first | done | rfl | (simp only [List.length_drop, List.length_take]; rfl)) ?_; (with_reducible refine (interchangelaw15_shown.calls true _ ⟨rfl⟩ A3.out).mono ?_); rintro e w5 ⟨rfl, hb⟩; refine ⟨_, rfl, ?_⟩; have n0_ := Aside0.mk (below_step (by repeat (first | (with_reducible first | exact HB.out | apply below_alloc | apply pw_below_drewN | apply below_drew1) | exact HB.out)) hb); clear HB; have HB := n0_; clear n0_; (try clear hb); (try clear hb2); (try clear hk); (try clear hi)))
    go_ret
    exact ⟨by first | rfl | (simp [errW_none, errW_some] <;> rfl) | (simp [*, errW_none, errW_some] <;> rfl) | (exfalso; simp only [decide_eq_true_eq, decide_eq_false_iff_not, beq_iff_eq, bne_iff_ne, ne_eq, beq_eq_false_iff_ne, bne_eq_false_iff_eq] at *; omega), by repeat (first | (with_reducible first | exact HB.out | apply below_alloc | apply pw_below_drewN | apply below_drew1) | exact HB.out)⟩
  · rw [if_neg c4] at H
    have c4b0 : decide (200 < (l0.length : Int)) = false := decide_eq_false c4
    have c4b1 : decide (200 < l0.length) = false := decide_eq_false (by omega)
    clear c4
    replace H := Option.bind_eq_some_iff.mp H
    obtain ⟨⟨t193, t194, t195⟩, A60, H⟩ := H
    replace H : (interchangelaw15_TagsRise.l0 k l0 a1 true ([] : List Int) 0 t193 t194 t195) = some r := H
    have A6 := Aside0.mk A60
    clear A60
    have H' := Aside0.mk H
    clear H
    go_enter Try.func5, Try.ntmps5
    go_wp2_with (first | ((with_reducible refine gate_callee (f := 9) rfl ?_); refine goesL_ (some 15) rfl rfl Try.func9 (by kernel_rfl) rfl #[] rfl (by (try simp only [List.map_toArray, List.map_cons, List.map_nil]); first | done | rfl | (simp only [List.length_drop, List.length_take]; rfl)) ?_; (with_reducible refine (interchangelaw15_shown.calls true _ ⟨rfl⟩ A3.out).mono ?_); rintro e w7 ⟨rfl, hb⟩; refine ⟨_, rfl, ?_⟩; have n0_ := Aside0.mk (below_step (by repeat (first | (with_reducible first | exact HB.out | apply below_alloc | apply pw_below_drewN | apply below_drew1) | exact HB.out)) hb); clear HB; have HB := n0_; clear n0_; (try clear hb); (try clear hb2); (try clear hk); (try clear hi)) | ((with_reducible refine gate_callee (f := 14) rfl ?_); refine goesL_ (some 20) rfl rfl Try.func14 (by kernel_rfl) rfl #[] rfl (by (try simp only [List.map_toArray, List.map_cons, List.map_nil]); first | done | rfl | (simp only [List.length_drop, List.length_take]; rfl)) ?_; (with_reducible refine (tags_New.calls  t193 t194 t195 _ A6.out).mono ?_); rintro e w8 ⟨v196, rfl, ho0, hb⟩; refine ⟨_, rfl, ?_⟩; have n0_ := Aside0.mk (Kd.R_lower ho0 (below_size (by repeat (first | (with_reducible first | exact HB.out | apply below_alloc | apply pw_below_drewN | apply below_drew1) | exact HB.out)))); have n1_ := Aside0.mk (below_step (by repeat (first | (with_reducible first | exact HB.out | apply below_alloc | apply pw_below_drewN | apply below_drew1) | exact HB.out)) hb); clear HB; have HO197 := n0_; have HB := n1_; clear n0_ n1_; (try clear hb); (try clear hb2); (try clear hk); (try clear hi); (try clear ho0)) | ((with_reducible refine gate_dst (N := 6) rfl ?_); (try (refine gate_guard (by rfl) ?_; dsimp only)); refine box_event ?hg (N := 6) ?hd (cs := #[.int .u64 0, .int .u64 0, .slice none 0 0]) (t := 25) ?hr ?_; (case hd => rfl); (case hg => rfl); (case hr => first | (go_simp; done) | (go_simp; rfl)); intro gb198 hg w9 hbox hb; have n0_ := Aside0.mk (Kd.R_below (by (with_reducible repeat (first | apply Kd.R_alloc | apply Kd.R_drewN | apply Kd.R_drew)); exact HO197.out) hb); have n1_ := Aside0.mk (below_step (by repeat (first | (with_reducible first | exact HB.out | apply below_alloc | apply pw_below_drewN | apply below_drew1) | exact HB.out)) hb); have n2_ := Aside0.mk (hbox); have n3_ := Aside0.mk ((by rw [hg]; exact (below_size (by repeat (first | (with_reducible first | exact HB.out | apply below_alloc | apply pw_below_drewN | apply below_drew1) | exact HB.out))) : w.heap.size ≤ gb198)); have n4_ := Aside0.mk ((by rw [hg]; exact (below_size (by repeat (first | (with_reducible first | exact HB.out | apply below_alloc | apply pw_below_drewN | apply below_drew1) | exact HB.out))) : w.heap.size ≤ gb198)); clear HO197; clear HB; have HO197 := n0_; have HB := n1_; have BK198 := n2_; have GW198 := n3_; have GE198 := n4_; clear n0_ n1_ n2_ n3_ n4_; clear hb hbox hg; have hcz10_0 : w9.cell? ⟨gb198, 0, none⟩ = some (.int .u64 0) := (blk_cell BK198.out 0).trans rfl; have hcz10_1 : w9.cell? ⟨gb198, 1, none⟩ = some (.int .u64 0) := (blk_cell BK198.out 1).trans rfl; have hcz10_2 : w9.cell? ⟨gb198, 2, none⟩ = some (.slice none 0 0) := (blk_cell BK198.out 2).trans rfl; have hfz10_0 := blk_frozen BK198.out 0; have hfz10_1 := blk_frozen BK198.out 1; have hfz10_2 := blk_frozen BK198.out 2; obtain ⟨Ao11, co11, eo11⟩ := Kd.R_slice HO197.out; subst eo11))
    go_loopg [7, 8] k (fun kq v7 v8 w' => ∃ (x7_1 : List Int) (x8_1 : Int) (x199000_1 : Int) (x199001_1 : Int) (x199002_1 : List (S47)) (u199002 : Value), v8 = .int .i64 x8_1 ∧ Aside0 (interchangelaw15_TagsRise.l0 kq l0 a1 true x7_1 x8_1 x199000_1 x199001_1 x199002_1 = some r) ∧ Aside0 (kq ≤ k) ∧ Aside0 (Kd.R (Kd.int .u64) 22 w' w.heap.size (fun _ => True) v7 x7_1) ∧ Aside0 (Kd.V k47 47 w' w.heap.size (fun k_ => some k_ ≠ (v7 : Value).ownBlock ∧ k_ ≠ gb198) u199002 x199002_1) ∧ Aside0 (w'.heap[gb198]? = some (.cells #[.int .u64 x199000_1, .int .u64 x199001_1, u199002] 25 (0, 0))) ∧ Aside0 (Below w.heap.size w w'))
    case atStart => exact ⟨(([] : List Int)), (0), (t193), (t194), (t195), (.slice Ao11 t195.length co11), (by first | rfl | (simp; done) | (simp [*]; done)), H', ⟨Nat.le_refl _⟩, ⟨by first | exact Kd.R_nil _ _ _ _ _ | exact Kd.N_nil _ _ _ _ _ | exact Kd.V_nil _ _ _ _ _ | exact Kd.Q_nil _ _ _ _ _ | exact Kd.S_nil _ _ _ _ _⟩, ⟨Kd.R_V (by (with_reducible repeat (first | apply Kd.R_alloc | apply Kd.R_drewN | apply Kd.R_drew)); exact Kd.R_mono (Kd.R_far (p := ⟨gb198, 2, none⟩) (Kd.R_far (p := ⟨gb198, 1, none⟩) (Kd.R_far (p := ⟨gb198, 0, none⟩) (Kd.R_types (Kd.R_types HO197.out BK198.out (by decide)) BK198.out (by decide)) (fun _ hk => hk.2) (.int .u64 t193)) (fun _ hk => hk.2) (.int .u64 t194)) (fun _ hk => hk.2) (.slice Ao11 t195.length co11)) (fun _ hk => ⟨(by simp [Value.ownBlock]), hk.1.2⟩))⟩, ⟨by (with_reducible repeat (first | refine blk_drewN ?_ _ | refine blk_drew ?_ | refine blk_alloc ?_ _)); refine blk_put (cs := #[.int .u64 t193, .int .u64 t194, .slice none 0 0]) ?_ 2 _ rfl; (with_reducible repeat (first | refine blk_drewN ?_ _ | refine blk_drew ?_ | refine blk_alloc ?_ _)); refine blk_put (cs := #[.int .u64 t193, .int .u64 0, .slice none 0 0]) ?_ 1 _ rfl; (with_reducible repeat (first | refine blk_drewN ?_ _ | refine blk_drew ?_ | refine blk_alloc ?_ _)); refine blk_put (cs := #[.int .u64 0, .int .u64 0, .slice none 0 0]) ?_ 0 _ rfl; (with_reducible repeat (first | refine blk_drewN ?_ _ | refine blk_drew ?_ | refine blk_alloc ?_ _)); exact BK198.out⟩, ⟨by repeat (first | (with_reducible first | exact HB.out | apply below_alloc | apply pw_below_drewN | apply below_drew1 | refine below_set ?_ GE198.out) | exact HB.out)⟩⟩
    case round =>
      clear H'
      try clear c1
      try clear p2
      try clear c4
      try clear c4b0
      try clear c4b1
      try clear c5
      try clear c9
      try clear hcz10_0
      try clear hcz10_1
      try clear hcz10_2
      try clear hfz10_0
      try clear hfz10_1
      try clear hfz10_2
      obtain ⟨x7_1, x8_1, x199000_1, x199001_1, x199002_1, u199002, rfl, HA, HK1, HO_7, HO_199002, BK198, HB⟩ := hrel
      cases gk with
      | zero => exact absurd HA.out (by simp [interchangelaw15_TagsRise.l0])
      | succ k1 =>
        have H := HA.out
        clear HA
        simp only [interchangelaw15_TagsRise.l0] at H
        by_cases c12 : x8_1 < (l0.length : Int)
        · rw [if_pos c12] at H
          have c12b0 : decide (x8_1 < (l0.length : Int)) = true := decide_eq_true c12
          clear c12
          by_cases c13 : 0 ≤ x8_1
          · rw [if_pos c13] at H
            have c13b0 : decide (0 ≤ x8_1) = true := decide_eq_true c13
            clear c13
            replace H := Option.bind_eq_some_iff.mp H
            obtain ⟨⟨t203, t204, t205, t208, t209⟩, A140, H⟩ := H
            replace H : (if (x7_1.length : Int) > 0 then (if 0 ≤ (wrap64 ((x7_1.length : Int) - 1)) then (if (wrap64 ((x7_1.length : Int) - 1)) < (x7_1.length : Int) then (interchangelaw15_TagsRise.j1 k1 l0 a1 true x7_1 x8_1 t208 t209 (rd x7_1 (wrap64 ((x7_1.length : Int) - 1))) t203 t204 t205) else (none)) else (none)) else (interchangelaw15_TagsRise.j1 k1 l0 a1 true x7_1 x8_1 t208 t209 0 t203 t204 t205)) = some r := H
            have A14 := Aside0.mk A140
            clear A140
            have HC15 := Aside0.mk H
            clear H
            obtain ⟨Ao16, co16, eo16⟩ := Kd.V_slice HO_199002.out
            subst eo16
            try go_wp2
            have n0_ := Aside0.mk (Kd.R_drew HO_7.out)
            have n1_ := Aside0.mk (Kd.V_drew HO_199002.out)
            have n2_ := Aside0.mk (blk_drew BK198.out)
            have n3_ := Aside0.mk (below_drew1 HB.out)
            clear HO_7
            clear HO_199002
            clear BK198
            clear HB
            have HO_7 := n0_
            have HO_199002 := n1_
            have BK198 := n2_
            have HB := n3_
            clear n0_ n1_ n2_ n3_
            have p202 : 0 ≤ (x8_1 : Int) := of_decide_eq_true (by first | (with_reducible assumption) | assumption)
            have q202 : x8_1 < (l0.length : Int) := of_decide_eq_true (by first | (with_reducible assumption) | assumption)
            obtain ⟨ad202, e202, hx202_0⟩ := Kd.at_int HR0.out x8_1 p202 q202
            have hw202_0 := hx202_0
            cases e202
            replace hx202_0 := (HB.out.cell (World.block_lt_of_cell? w _ hx202_0)).trans hx202_0
            replace p202 := eq_true p202
            replace q202 := eq_true q202
            refine start_ (n := 14) (S := fun w' => w'.cell? ⟨gb198, 0, none⟩ = some (.int .u64 x199000_1) ∧ w'.cell? ⟨gb198, 1, none⟩ = some (.int .u64 x199001_1) ∧ w'.cell? ⟨gb198, 2, none⟩ = some (.slice Ao16 x199002_1.length co16) ∧ w'.cell? (ad202.add (x8_1).toNat) = some (.int .u64 (rd l0 x8_1))) (ds := []) #[false, false, false, false, false, false, false, false, false, false, false, false, false, false] (by kernel_rfl) rfl rfl ⟨(blk_cell BK198.out 0).trans rfl, (blk_cell BK198.out 1).trans rfl, (blk_cell BK198.out 2).trans rfl, ((HB.out.cell (World.block_lt_of_cell? w _ hw202_0)).trans hw202_0)⟩ (fun hHeld => ?_); refine with_tabW interchangelaw15_TagsRise.tab9 interchangelaw15_TagsRise.bits9 (fun HT_ HW_ => ?_)
            generalize wr.drew = w17 at HO_7 HO_199002 BK198 HB hx202_0 hHeld ⊢
            refine pure_ (i := 1) (N := some 29) (v := ?_) (a' := ?_) #[false, true, false, false, false, false, false, false, false, false, false, false, false, false] rfl rfl (any_of HT_.out (by kernel_rfl)) (fun _ _ _ h => h) (Or.inl ⟨by rfl, ?_⟩) ?_ ?_
            rotate_left
            · intro w'
              go_simp
              with_reducible rfl
            rotate_left
            · simp only [Act.put, List.setIfInBounds_toArray, List.set_cons_zero, List.set_cons_succ, i64_w, i32_w]
              rfl
            refine pure_ (i := 2) (N := some 30) (v := ?_) (a' := ?_) #[false, true, true, false, false, false, false, false, false, false, false, false, false, false] rfl rfl (any_of HT_.out (by kernel_rfl)) (fun _ _ _ h => h) (Or.inl ⟨by rfl, ?_⟩) ?_ ?_
            rotate_left
            · intro w'
              go_simp
              with_reducible rfl
            rotate_left
            · simp only [Act.put, List.setIfInBounds_toArray, List.set_cons_zero, List.set_cons_succ, i64_w, i32_w]
              rfl
            refine pure_ (i := 3) (N := some 31) (v := ?_) (a' := ?_) #[false, true, true, true, false, false, false, false, false, false, false, false, false, false] rfl rfl (any_of HT_.out (by kernel_rfl)) (fun _ _ _ h => h) (Or.inl ⟨by rfl, ?_⟩) ?_ ?_
            rotate_left
            · intro w'
              go_simp
              with_reducible rfl
            rotate_left
            · simp only [Act.put, List.setIfInBounds_toArray, List.set_cons_zero, List.set_cons_succ, i64_w, i32_w]
              rfl
            refine take_ (i := 0) (N := some 28) (v := ?_) (a' := ?_) #[true, true, true, true, false, false, false, false, false, false, false, false, false, false] rfl rfl (take_ofW HT_.out HW_.out (by kernel_rfl)) (fun _ _ _ h => h) (Or.inl ⟨by rfl, ?_⟩) hHeld ?_ ?_
            rotate_left
            · rintro w' ⟨s0, s1, s2, s3⟩
              go_simp
              with_reducible rfl
            rotate_left
            · simp only [Act.put, List.setIfInBounds_toArray, List.set_cons_zero, List.set_cons_succ, i64_w, i32_w]
              rfl
            refine take_ (i := 4) (N := some 32) (v := ?_) (a' := ?_) #[true, true, true, true, true, false, false, false, false, false, false, false, false, false] rfl rfl (take_ofW HT_.out HW_.out (by kernel_rfl)) (fun _ _ _ h => h) (Or.inl ⟨by rfl, ?_⟩) hHeld ?_ ?_
            rotate_left
            · rintro w' ⟨s0, s1, s2, s3⟩
              go_simp
              with_reducible rfl
            rotate_left
            · simp only [Act.put, List.setIfInBounds_toArray, List.set_cons_zero, List.set_cons_succ, i64_w, i32_w]
              rfl
            refine join_ (σ := Value × Nat) 3 #[true, true, true, true, true, true, true, true, true, true, true, false, false, false] (fun s_ => [(33, .tuple #[.agg #[.int .u64 t203, .int .u64 t204, s_.1], .int .u64 t208, .int .i64 t209]), (9, .pointer (some ⟨s_.2, 0, none⟩)), (27, .tuple #[.agg #[.int .u64 t203, .int .u64 t204, s_.1], .int .u64 t208, .int .i64 t209]), (34, .agg #[.int .u64 t203, .int .u64 t204, s_.1]), (35, .int .u64 t208), (36, .int .i64 t209)]) (fun s_ w' => (w'.cell? ⟨gb198, 0, none⟩ = some (.int .u64 x199000_1) ∧ w'.cell? ⟨gb198, 1, none⟩ = some (.int .u64 x199001_1) ∧ w'.cell? ⟨gb198, 2, none⟩ = some (.slice Ao16 x199002_1.length co16) ∧ w'.cell? (ad202.add (x8_1).toNat) = some (.int .u64 (rd l0 x8_1))) ∧ (Kd.V k47 47 w' w.heap.size (fun k_ => some k_ ≠ (u7 : Value).ownBlock ∧ k_ ≠ gb198 ∧ k_ ≠ s_.2) s_.1 t205) ∧ (Kd.V k47 47 w' w.heap.size (fun k_ => some k_ ≠ (u7 : Value).ownBlock ∧ k_ ≠ gb198 ∧ k_ ≠ s_.2) (.slice Ao16 x199002_1.length co16) x199002_1) ∧ (Kd.R (Kd.int .u64) 22 w' w.heap.size (fun _ => True) u7 x7_1) ∧ (w'.heap[gb198]? = some (.cells #[.int .u64 x199000_1, .int .u64 x199001_1, .slice Ao16 x199002_1.length co16] 25 (0, 0))) ∧ (w'.heap[s_.2]? = some (.cells #[.int .u64 0, .int .u64 0, .slice none 0 0] 25 (0, 0))) ∧ (w.heap.size ≤ s_.2) ∧ (w.heap.size ≤ s_.2) ∧ (gb198 ≠ s_.2) ∧ (s_.2 ≠ gb198) ∧ (Below w.heap.size w w')) ?_ ?_
            rotate_left
            · intro hCont
              refine two_ (i := 5) (j := 10) (Ni := some 33) (Nj := some 9) #[true, true, true, true, true, true, false, false, false, false, false, false, false, false] #[true, true, true, true, true, false, false, false, false, false, true, false, false, false] rfl rfl rfl rfl (two_of HT_.out (by kernel_rfl)) (by decide) (by decide) (fun K hK => ?_) (fun K hK => ?_)
              · skip
                refine goes_ Try.func11 (by kernel_rfl) rfl #[.agg #[.int .u64 x199000_1, .int .u64 x199001_1, .slice Ao16 x199002_1.length co16], .int .u64 (rd l0 x8_1), .int .i64 500] (by rfl) rfl rfl (by (try simp only [List.map_toArray, List.map_cons, List.map_nil]); first | done | rfl | (simp only [List.length_drop, List.length_take]; rfl)) ?_
                with_reducible refine (tags_Deliver.calls x199000_1 x199001_1 (fun k_ => (some k_ ≠ (u7 : Value).ownBlock ∧ k_ ≠ gb198)) _ _ x199002_1 (rd l0 x8_1) 500 t203 t204 t205 t208 t209 _ ?side1 A14.out).mono ?_
                (case side1 => exact HO_199002.out)
                rintro e w18 ⟨v206, rfl, ho0, hb⟩
                refine ⟨_, rfl, ?_⟩
                have n0_ := Aside0.mk (Kd.R_below (by (with_reducible repeat (first | apply Kd.R_alloc | apply Kd.R_drewN | apply Kd.R_drew)); exact HO_7.out) hb)
                have n1_ := Aside0.mk (Kd.V_below (by (with_reducible repeat (first | apply Kd.V_alloc | apply Kd.V_drewN | apply Kd.V_drew)); exact HO_199002.out) hb)
                have n2_ := Aside0.mk (Kd.V_lower (Kd.V_mono (ok' := fun k_ => some k_ ≠ (u7 : Value).ownBlock ∧ k_ ≠ gb198) ho0 (fun k_ hk_ => ⟨Or.elim hk_ (fun hs_ => hs_.1) (fun hn_ => (Kd.fresh' (Kd.R_lt (by (with_reducible repeat (first | apply Kd.R_alloc | apply Kd.R_drewN | apply Kd.R_drew)); exact HO_7.out)) k_ hn_)), Or.elim hk_ (fun hs_ => hs_.2) (fun hn_ => (Kd.freshB (g := gb198) (o := .cells #[.int .u64 x199000_1, .int .u64 x199001_1, .slice Ao16 x199002_1.length co16] 25 (0, 0)) (by (with_reducible repeat (first | refine blk_drewN ?_ _ | refine blk_drew ?_ | refine blk_alloc ?_ _)); exact BK198.out) k_ hn_))⟩)) (below_size (by repeat (first | (with_reducible first | exact HB.out | apply below_alloc | apply pw_below_drewN | apply below_drew1 | refine below_set ?_ GE198.out) | exact HB.out))))
                have n3_ := Aside0.mk (blk_below (g := gb198) (o := .cells #[.int .u64 x199000_1, .int .u64 x199001_1, .slice Ao16 x199002_1.length co16] 25 (0, 0)) (by (with_reducible repeat (first | refine blk_drewN ?_ _ | refine blk_drew ?_ | refine blk_alloc ?_ _)); exact BK198.out) hb)
                have n4_ := Aside0.mk (below_step (by repeat (first | (with_reducible first | exact HB.out | apply below_alloc | apply pw_below_drewN | apply below_drew1 | refine below_set ?_ GE198.out) | exact HB.out)) hb)
                clear HO_7
                clear HO_199002
                clear BK198
                clear HB
                have HO_7 := n0_
                have HO_199002 := n1_
                have HO207 := n2_
                have BK198 := n3_
                have HB := n4_
                clear n0_ n1_ n2_ n3_ n4_
                (try clear hb)
                (try clear hb2)
                (try clear hk)
                (try clear hi)
                (try clear ho0)
                refine hK.out _ _ ⟨(blk_cell BK198.out 0).trans rfl, (blk_cell BK198.out 1).trans rfl, (blk_cell BK198.out 2).trans rfl, ((HB.out.cell (World.block_lt_of_cell? w _ hw202_0)).trans hw202_0)⟩ (fun hHeld => ?_)
                clear hK K
                refine norm_ (a' := ?_) ?_ ?_
                rotate_left
                · show Act.put _ (some 33) _ = _
                  simp only [Act.put, List.setIfInBounds_toArray, List.set_cons_zero, List.set_cons_succ, i64_w, i32_w]
                  rfl
                refine pure_ (i := 6) (N := some 27) (v := ?_) (a' := ?_) #[true, true, true, true, true, true, true, false, false, false, false, false, false, false] rfl rfl (any_of HT_.out (by kernel_rfl)) (fun _ _ _ h => h) (Or.inl ⟨by rfl, ?_⟩) ?_ ?_
                rotate_left
                · intro w'
                  go_simp
                  with_reducible rfl
                rotate_left
                · simp only [Act.put, List.setIfInBounds_toArray, List.set_cons_zero, List.set_cons_succ, i64_w, i32_w]
                  rfl
                refine pure_ (i := 7) (N := some 34) (v := ?_) (a' := ?_) #[true, true, true, true, true, true, true, true, false, false, false, false, false, false] rfl rfl (any_of HT_.out (by kernel_rfl)) (fun _ _ _ h => h) (Or.inl ⟨by rfl, ?_⟩) ?_ ?_
                rotate_left
                · intro w'
                  go_simp
                  with_reducible rfl
                rotate_left
                · simp only [Act.put, List.setIfInBounds_toArray, List.set_cons_zero, List.set_cons_succ, i64_w, i32_w]
                  rfl
                refine pure_ (i := 8) (N := some 35) (v := ?_) (a' := ?_) #[true, true, true, true, true, true, true, true, true, false, false, false, false, false] rfl rfl (any_of HT_.out (by kernel_rfl)) (fun _ _ _ h => h) (Or.inl ⟨by rfl, ?_⟩) ?_ ?_
                rotate_left
                · intro w'
                  go_simp
                  with_reducible rfl
                rotate_left
                · simp only [Act.put, List.setIfInBounds_toArray, List.set_cons_zero, List.set_cons_succ, i64_w, i32_w]
                  rfl
                refine pure_ (i := 9) (N := some 36) (v := ?_) (a' := ?_) #[true, true, true, true, true, true, true, true, true, true, false, false, false, false] rfl rfl (any_of HT_.out (by kernel_rfl)) (fun _ _ _ h => h) (Or.inl ⟨by rfl, ?_⟩) ?_ ?_
                rotate_left
                · intro w'
                  go_simp
                  with_reducible rfl
                rotate_left
                · simp only [Act.put, List.setIfInBounds_toArray, List.set_cons_zero, List.set_cons_succ, i64_w, i32_w]
                  rfl
                refine one_ (i := 10) (N := some 9) #[true, true, true, true, true, true, true, true, true, true, true, false, false, false] rfl rfl (one_of HT_.out (by kernel_rfl)) (by decide) (fun K hK => ?_)
                refine box_step ?hg (N := 9) ?hd (cs := #[.int .u64 0, .int .u64 0, .slice none 0 0]) (t := 25) ?hr ?_; (case hd => rfl); (case hg => rfl); (case hr => first | (go_simp; done) | (go_simp; rfl))
                intro gb210 hg w19 hbox hb
                have n0_ := Aside0.mk (Kd.R_below (by (with_reducible repeat (first | apply Kd.R_alloc | apply Kd.R_drewN | apply Kd.R_drew)); exact HO_7.out) hb)
                have n1_ := Aside0.mk (Kd.V_below (Kd.V_elderB (by (with_reducible repeat (first | apply Kd.V_alloc | apply Kd.V_drewN | apply Kd.V_drew)); exact HO_199002.out) gb210 (Nat.le_of_eq hg.symm)) hb)
                have n2_ := Aside0.mk (Kd.V_below (Kd.V_elderB (by (with_reducible repeat (first | apply Kd.V_alloc | apply Kd.V_drewN | apply Kd.V_drew)); exact HO207.out) gb210 (Nat.le_of_eq hg.symm)) hb)
                have n3_ := Aside0.mk (blk_below (g := gb198) (o := .cells #[.int .u64 x199000_1, .int .u64 x199001_1, .slice Ao16 x199002_1.length co16] 25 (0, 0)) (by (with_reducible repeat (first | refine blk_drewN ?_ _ | refine blk_drew ?_ | refine blk_alloc ?_ _)); exact BK198.out) hb)
                have n4_ := Aside0.mk (below_step (by repeat (first | (with_reducible first | exact HB.out | apply below_alloc | apply pw_below_drewN | apply below_drew1 | refine below_set ?_ GE198.out) | exact HB.out)) hb)
                have n5_ := Aside0.mk (hbox)
                have n6_ := Aside0.mk ((by rw [hg]; exact (below_size (by repeat (first | (with_reducible first | exact HB.out | apply below_alloc | apply pw_below_drewN | apply below_drew1 | refine below_set ?_ GE198.out) | exact HB.out))) : w.heap.size ≤ gb210))
                have n7_ := Aside0.mk ((by rw [hg]; exact (below_size (by repeat (first | (with_reducible first | exact HB.out | apply below_alloc | apply pw_below_drewN | apply below_drew1 | refine below_set ?_ GE198.out) | exact HB.out))) : w.heap.size ≤ gb210))
                have n8_ := Aside0.mk ((by rw [hg]; exact Nat.ne_of_lt (blk_lt (g := gb198) (o := .cells #[.int .u64 x199000_1, .int .u64 x199001_1, .slice Ao16 x199002_1.length co16] 25 (0, 0)) (by (with_reducible repeat (first | refine blk_drewN ?_ _ | refine blk_drew ?_ | refine blk_alloc ?_ _)); exact BK198.out)) : gb198 ≠ gb210))
                have n9_ := Aside0.mk ((by rw [hg]; exact Nat.ne_of_gt (blk_lt (g := gb198) (o := .cells #[.int .u64 x199000_1, .int .u64 x199001_1, .slice Ao16 x199002_1.length co16] 25 (0, 0)) (by (with_reducible repeat (first | refine blk_drewN ?_ _ | refine blk_drew ?_ | refine blk_alloc ?_ _)); exact BK198.out)) : gb210 ≠ gb198))
                clear HO_7
                clear HO_199002
                clear HO207
                clear BK198
                clear HB
                have HO_7 := n0_
                have HO_199002 := n1_
                have HO207 := n2_
                have BK198 := n3_
                have HB := n4_
                have BK210 := n5_
                have GW210 := n6_
                have GE210 := n7_
                have NB198_210 := n8_
                have NB210_198 := n9_
                clear n0_ n1_ n2_ n3_ n4_ n5_ n6_ n7_ n8_ n9_
                clear hb hbox hg
                refine hK.out _ _ ⟨(blk_cell BK198.out 0).trans rfl, (blk_cell BK198.out 1).trans rfl, (blk_cell BK198.out 2).trans rfl, ((HB.out.cell (World.block_lt_of_cell? w _ hw202_0)).trans hw202_0)⟩ (fun hHeld => ?_)
                clear hK K
                refine norm_ (a' := ?_) ?_ ?_
                rotate_left
                · show Act.put _ (some 9) _ = _
                  simp only [Act.put, List.setIfInBounds_toArray, List.set_cons_zero, List.set_cons_succ, i64_w, i32_w]
                  rfl
                exact norm_ (by simp only [putAll, Act.put, List.setIfInBounds_toArray, List.set_cons_zero, List.set_cons_succ]) (hCont (v206, gb210) _ ⟨hHeld, (by (with_reducible repeat (first | apply Kd.V_alloc | apply Kd.V_drewN | apply Kd.V_drew)); exact Kd.V_mono HO207.out (fun _ hk => ⟨hk.1.1, ⟨hk.1.2, hk.2⟩⟩)), (by (with_reducible repeat (first | apply Kd.V_alloc | apply Kd.V_drewN | apply Kd.V_drew)); exact Kd.V_mono HO_199002.out (fun _ hk => ⟨hk.1.1, ⟨hk.1.2, hk.2⟩⟩)), (by (with_reducible repeat (first | apply Kd.R_alloc | apply Kd.R_drewN | apply Kd.R_drew)); exact HO_7.out), (by (with_reducible repeat (first | refine blk_drewN ?_ _ | refine blk_drew ?_ | refine blk_alloc ?_ _)); exact BK198.out), (by (with_reducible repeat (first | refine blk_drewN ?_ _ | refine blk_drew ?_ | refine blk_alloc ?_ _)); exact BK210.out), GW210.out, GE210.out, NB198_210.out, NB210_198.out, (by repeat (first | (with_reducible first | exact HB.out | apply below_alloc | apply pw_below_drewN | apply below_drew1 | refine below_set ?_ GE198.out | refine below_set ?_ GE210.out) | exact HB.out))⟩)
              · skip
                refine box_step ?hg (N := 9) ?hd (cs := #[.int .u64 0, .int .u64 0, .slice none 0 0]) (t := 25) ?hr ?_; (case hd => rfl); (case hg => rfl); (case hr => first | (go_simp; done) | (go_simp; rfl))
                intro gb210 hg w18 hbox hb
                have n0_ := Aside0.mk (Kd.R_below (by (with_reducible repeat (first | apply Kd.R_alloc | apply Kd.R_drewN | apply Kd.R_drew)); exact HO_7.out) hb)
                have n1_ := Aside0.mk (Kd.V_below (Kd.V_elderB (by (with_reducible repeat (first | apply Kd.V_alloc | apply Kd.V_drewN | apply Kd.V_drew)); exact HO_199002.out) gb210 (Nat.le_of_eq hg.symm)) hb)
                have n2_ := Aside0.mk (blk_below (g := gb198) (o := .cells #[.int .u64 x199000_1, .int .u64 x199001_1, .slice Ao16 x199002_1.length co16] 25 (0, 0)) (by (with_reducible repeat (first | refine blk_drewN ?_ _ | refine blk_drew ?_ | refine blk_alloc ?_ _)); exact BK198.out) hb)
                have n3_ := Aside0.mk (below_step (by repeat (first | (with_reducible first | exact HB.out | apply below_alloc | apply pw_below_drewN | apply below_drew1 | refine below_set ?_ GE198.out) | exact HB.out)) hb)
                have n4_ := Aside0.mk (hbox)
                have n5_ := Aside0.mk ((by rw [hg]; exact (below_size (by repeat (first | (with_reducible first | exact HB.out | apply below_alloc | apply pw_below_drewN | apply below_drew1 | refine below_set ?_ GE198.out) | exact HB.out))) : w.heap.size ≤ gb210))
                have n6_ := Aside0.mk ((by rw [hg]; exact (below_size (by repeat (first | (with_reducible first | exact HB.out | apply below_alloc | apply pw_below_drewN | apply below_drew1 | refine below_set ?_ GE198.out) | exact HB.out))) : w.heap.size ≤ gb210))
                have n7_ := Aside0.mk ((by rw [hg]; exact Nat.ne_of_lt (blk_lt (g := gb198) (o := .cells #[.int .u64 x199000_1, .int .u64 x199001_1, .slice Ao16 x199002_1.length co16] 25 (0, 0)) (by (with_reducible repeat (first | refine blk_drewN ?_ _ | refine blk_drew ?_ | refine blk_alloc ?_ _)); exact BK198.out)) : gb198 ≠ gb210))
                have n8_ := Aside0.mk ((by rw [hg]; exact Nat.ne_of_gt (blk_lt (g := gb198) (o := .cells #[.int .u64 x199000_1, .int .u64 x199001_1, .slice Ao16 x199002_1.length co16] 25 (0, 0)) (by (with_reducible repeat (first | refine blk_drewN ?_ _ | refine blk_drew ?_ | refine blk_alloc ?_ _)); exact BK198.out)) : gb210 ≠ gb198))
                clear HO_7
                clear HO_199002
                clear BK198
                clear HB
                have HO_7 := n0_
                have HO_199002 := n1_
                have BK198 := n2_
                have HB := n3_
                have BK210 := n4_
                have GW210 := n5_
                have GE210 := n6_
                have NB198_210 := n7_
                have NB210_198 := n8_
                clear n0_ n1_ n2_ n3_ n4_ n5_ n6_ n7_ n8_
                clear hb hbox hg
                refine hK.out _ _ ⟨(blk_cell BK198.out 0).trans rfl, (blk_cell BK198.out 1).trans rfl, (blk_cell BK198.out 2).trans rfl, ((HB.out.cell (World.block_lt_of_cell? w _ hw202_0)).trans hw202_0)⟩ (fun hHeld => ?_)
                clear hK K
                refine norm_ (a' := ?_) ?_ ?_
                rotate_left
                · show Act.put _ (some 9) _ = _
                  simp only [Act.put, List.setIfInBounds_toArray, List.set_cons_zero, List.set_cons_succ, i64_w, i32_w]
                  rfl
                refine one_ (i := 5) (N := some 33) #[true, true, true, true, true, true, false, false, false, false, true, false, false, false] rfl rfl (one_of HT_.out (by kernel_rfl)) (by decide) (fun K hK => ?_)
                refine goes_ Try.func11 (by kernel_rfl) rfl #[.agg #[.int .u64 x199000_1, .int .u64 x199001_1, .slice Ao16 x199002_1.length co16], .int .u64 (rd l0 x8_1), .int .i64 500] (by rfl) rfl rfl (by (try simp only [List.map_toArray, List.map_cons, List.map_nil]); first | done | rfl | (simp only [List.length_drop, List.length_take]; rfl)) ?_
                with_reducible refine (tags_Deliver.calls x199000_1 x199001_1 (fun k_ => ((some k_ ≠ (u7 : Value).ownBlock ∧ k_ ≠ gb198) ∧ k_ ≠ gb210)) _ _ x199002_1 (rd l0 x8_1) 500 t203 t204 t205 t208 t209 _ ?side1 A14.out).mono ?_
                (case side1 => exact HO_199002.out)
                rintro e w19 ⟨v206, rfl, ho0, hb⟩
                refine ⟨_, rfl, ?_⟩
                have n0_ := Aside0.mk (Kd.R_below (by (with_reducible repeat (first | apply Kd.R_alloc | apply Kd.R_drewN | apply Kd.R_drew)); exact HO_7.out) hb)
                have n1_ := Aside0.mk (Kd.V_below (by (with_reducible repeat (first | apply Kd.V_alloc | apply Kd.V_drewN | apply Kd.V_drew)); exact HO_199002.out) hb)
                have n2_ := Aside0.mk (Kd.V_lower (Kd.V_mono (ok' := fun k_ => some k_ ≠ (u7 : Value).ownBlock ∧ k_ ≠ gb198 ∧ k_ ≠ gb210) ho0 (fun k_ hk_ => ⟨Or.elim hk_ (fun hs_ => hs_.1.1) (fun hn_ => (Kd.fresh' (Kd.R_lt (by (with_reducible repeat (first | apply Kd.R_alloc | apply Kd.R_drewN | apply Kd.R_drew)); exact HO_7.out)) k_ hn_)), Or.elim hk_ (fun hs_ => hs_.1.2) (fun hn_ => (Kd.freshB (g := gb198) (o := .cells #[.int .u64 x199000_1, .int .u64 x199001_1, .slice Ao16 x199002_1.length co16] 25 (0, 0)) (by (with_reducible repeat (first | refine blk_drewN ?_ _ | refine blk_drew ?_ | refine blk_alloc ?_ _)); exact BK198.out) k_ hn_)), Or.elim hk_ (fun hs_ => hs_.2) (fun hn_ => (Kd.freshB (g := gb210) (o := .cells #[.int .u64 0, .int .u64 0, .slice none 0 0] 25 (0, 0)) (by (with_reducible repeat (first | refine blk_drewN ?_ _ | refine blk_drew ?_ | refine blk_alloc ?_ _)); exact BK210.out) k_ hn_))⟩)) (below_size (by repeat (first | (with_reducible first | exact HB.out | apply below_alloc | apply pw_below_drewN | apply below_drew1 | refine below_set ?_ GE198.out | refine below_set ?_ GE210.out) | exact HB.out))))
                have n3_ := Aside0.mk (blk_below (g := gb198) (o := .cells #[.int .u64 x199000_1, .int .u64 x199001_1, .slice Ao16 x199002_1.length co16] 25 (0, 0)) (by (with_reducible repeat (first | refine blk_drewN ?_ _ | refine blk_drew ?_ | refine blk_alloc ?_ _)); exact BK198.out) hb)
                have n4_ := Aside0.mk (blk_below (g := gb210) (o := .cells #[.int .u64 0, .int .u64 0, .slice none 0 0] 25 (0, 0)) (by (with_reducible repeat (first | refine blk_drewN ?_ _ | refine blk_drew ?_ | refine blk_alloc ?_ _)); exact BK210.out) hb)
                have n5_ := Aside0.mk (below_step (by repeat (first | (with_reducible first | exact HB.out | apply below_alloc | apply pw_below_drewN | apply below_drew1 | refine below_set ?_ GE198.out | refine below_set ?_ GE210.out) | exact HB.out)) hb)
                clear HO_7
                clear HO_199002
                clear BK198
                clear BK210
                clear HB
                have HO_7 := n0_
                have HO_199002 := n1_
                have HO207 := n2_
                have BK198 := n3_
                have BK210 := n4_
                have HB := n5_
                clear n0_ n1_ n2_ n3_ n4_ n5_
                (try clear hb)
                (try clear hb2)
                (try clear hk)
                (try clear hi)
                (try clear ho0)
                refine hK.out _ _ ⟨(blk_cell BK198.out 0).trans rfl, (blk_cell BK198.out 1).trans rfl, (blk_cell BK198.out 2).trans rfl, ((HB.out.cell (World.block_lt_of_cell? w _ hw202_0)).trans hw202_0)⟩ (fun hHeld => ?_)
                clear hK K
                refine norm_ (a' := ?_) ?_ ?_
                rotate_left
                · show Act.put _ (some 33) _ = _
                  simp only [Act.put, List.setIfInBounds_toArray, List.set_cons_zero, List.set_cons_succ, i64_w, i32_w]
                  rfl
                refine pure_ (i := 6) (N := some 27) (v := ?_) (a' := ?_) #[true, true, true, true, true, true, true, false, false, false, true, false, false, false] rfl rfl (any_of HT_.out (by kernel_rfl)) (fun _ _ _ h => h) (Or.inl ⟨by rfl, ?_⟩) ?_ ?_
                rotate_left
                · intro w'
                  go_simp
                  with_reducible rfl
                rotate_left
                · simp only [Act.put, List.setIfInBounds_toArray, List.set_cons_zero, List.set_cons_succ, i64_w, i32_w]
                  rfl
                refine pure_ (i := 7) (N := some 34) (v := ?_) (a' := ?_) #[true, true, true, true, true, true, true, true, false, false, true, false, false, false] rfl rfl (any_of HT_.out (by kernel_rfl)) (fun _ _ _ h => h) (Or.inl ⟨by rfl, ?_⟩) ?_ ?_
                rotate_left
                · intro w'
                  go_simp
                  with_reducible rfl
                rotate_left
                · simp only [Act.put, List.setIfInBounds_toArray, List.set_cons_zero, List.set_cons_succ, i64_w, i32_w]
                  rfl
                refine pure_ (i := 8) (N := some 35) (v := ?_) (a' := ?_) #[true, true, true, true, true, true, true, true, true, false, true, false, false, false] rfl rfl (any_of HT_.out (by kernel_rfl)) (fun _ _ _ h => h) (Or.inl ⟨by rfl, ?_⟩) ?_ ?_
                rotate_left
                · intro w'
                  go_simp
                  with_reducible rfl
                rotate_left
                · simp only [Act.put, List.setIfInBounds_toArray, List.set_cons_zero, List.set_cons_succ, i64_w, i32_w]
                  rfl
                refine pure_ (i := 9) (N := some 36) (v := ?_) (a' := ?_) #[true, true, true, true, true, true, true, true, true, true, true, false, false, false] rfl rfl (any_of HT_.out (by kernel_rfl)) (fun _ _ _ h => h) (Or.inl ⟨by rfl, ?_⟩) ?_ ?_
                rotate_left
                · intro w'
                  go_simp
                  with_reducible rfl
                rotate_left
                · simp only [Act.put, List.setIfInBounds_toArray, List.set_cons_zero, List.set_cons_succ, i64_w, i32_w]
                  rfl
                exact norm_ (by simp only [putAll, Act.put, List.setIfInBounds_toArray, List.set_cons_zero, List.set_cons_succ]) (hCont (v206, gb210) _ ⟨hHeld, (by (with_reducible repeat (first | apply Kd.V_alloc | apply Kd.V_drewN | apply Kd.V_drew)); exact HO207.out), (by (with_reducible repeat (first | apply Kd.V_alloc | apply Kd.V_drewN | apply Kd.V_drew)); exact Kd.V_mono HO_199002.out (fun _ hk => ⟨hk.1.1, ⟨hk.1.2, hk.2⟩⟩)), (by (with_reducible repeat (first | apply Kd.R_alloc | apply Kd.R_drewN | apply Kd.R_drew)); exact HO_7.out), (by (with_reducible repeat (first | refine blk_drewN ?_ _ | refine blk_drew ?_ | refine blk_alloc ?_ _)); exact BK198.out), (by (with_reducible repeat (first | refine blk_drewN ?_ _ | refine blk_drew ?_ | refine blk_alloc ?_ _)); exact BK210.out), GW210.out, GE210.out, NB198_210.out, NB210_198.out, (by repeat (first | (with_reducible first | exact HB.out | apply below_alloc | apply pw_below_drewN | apply below_drew1 | refine below_set ?_ GE198.out | refine below_set ?_ GE210.out) | exact HB.out))⟩)
            rintro ⟨v206, gb210⟩ w20 ⟨hS_, h0_, h1_, h2_, h3_, h4_, h5_, h6_, h7_, h8_, h9_⟩
            have n0_ : Aside0 (Kd.V k47 47 w20 w.heap.size (fun k_ => some k_ ≠ (u7 : Value).ownBlock ∧ k_ ≠ gb198 ∧ k_ ≠ gb210) v206 t205) := ⟨h0_⟩
            have n1_ : Aside0 (Kd.V k47 47 w20 w.heap.size (fun k_ => some k_ ≠ (u7 : Value).ownBlock ∧ k_ ≠ gb198 ∧ k_ ≠ gb210) (.slice Ao16 x199002_1.length co16) x199002_1) := ⟨h1_⟩
            have n2_ : Aside0 (Kd.R (Kd.int .u64) 22 w20 w.heap.size (fun _ => True) u7 x7_1) := ⟨h2_⟩
            have n3_ : Aside0 (w20.heap[gb198]? = some (.cells #[.int .u64 x199000_1, .int .u64 x199001_1, .slice Ao16 x199002_1.length co16] 25 (0, 0))) := ⟨h3_⟩
            have n4_ : Aside0 (w20.heap[gb210]? = some (.cells #[.int .u64 0, .int .u64 0, .slice none 0 0] 25 (0, 0))) := ⟨h4_⟩
            have n5_ : Aside0 (w.heap.size ≤ gb210) := ⟨h5_⟩
            have n6_ : Aside0 (w.heap.size ≤ gb210) := ⟨h6_⟩
            have n7_ : Aside0 (gb198 ≠ gb210) := ⟨h7_⟩
            have n8_ : Aside0 (gb210 ≠ gb198) := ⟨h8_⟩
            have n9_ : Aside0 (Below w.heap.size w w20) := ⟨h9_⟩
            clear HO_7
            clear HO_199002
            clear BK198
            clear HB
            clear h0_ h1_ h2_ h3_ h4_ h5_ h6_ h7_ h8_ h9_
            have HO207 := n0_
            have HO_199002 := n1_
            have HO_7 := n2_
            have BK198 := n3_
            have BK210 := n4_
            have GW210 := n5_
            have GE210 := n6_
            have NB198_210 := n7_
            have NB210_198 := n8_
            have HB := n9_
            clear n0_ n1_ n2_ n3_ n4_ n5_ n6_ n7_ n8_ n9_
            have hHeld : w20.cell? ⟨gb198, 0, none⟩ = some (.int .u64 x199000_1) ∧ w20.cell? ⟨gb198, 1, none⟩ = some (.int .u64 x199001_1) ∧ w20.cell? ⟨gb198, 2, none⟩ = some (.slice Ao16 x199002_1.length co16) ∧ w20.cell? (ad202.add (x8_1).toNat) = some (.int .u64 (rd l0 x8_1)) := hS_
            obtain ⟨Ao23, co23, eo23⟩ := Kd.V_slice HO207.out
            (first | subst eo23 | (injection eo23 with f1_ f2_ f3_; have f4_ := f1_.symm; have f5_ := f3_.symm; clear f1_ f2_ f3_; subst f4_; subst f5_))
            refine norm_ (a' := ?_) ?_ ?_
            rotate_left
            · simp only [putAll, Act.put, List.setIfInBounds_toArray, List.set_cons_zero, List.set_cons_succ]
              rfl
            refine one_ (i := 11) (N := none) #[true, true, true, true, true, true, true, true, true, true, true, true, false, false] rfl rfl (one_of HT_.out (by kernel_rfl)) (by decide) (fun K hK => ?_)
            have hs21 : w20.cell? ⟨gb210, 0, none⟩ = some (.int .u64 0) := (blk_cell BK210.out 0).trans rfl
            have hfs21 := blk_frozen BK210.out 0
            have hns21_0 := NB198_210.out
            have hms21_0 := NB210_198.out
            have hs22 : w20.cell? ⟨gb210, 1, none⟩ = some (.int .u64 0) := (blk_cell BK210.out 1).trans rfl
            have hfs22 := blk_frozen BK210.out 1
            have hns22_0 := NB198_210.out
            have hms22_0 := NB210_198.out
            have hs24 : w20.cell? ⟨gb210, 2, none⟩ = some (.slice none 0 0) := (blk_cell BK210.out 2).trans rfl
            have hfs24 := blk_frozen BK210.out 2
            have hns24_0 := NB198_210.out
            have hms24_0 := NB210_198.out
            refine skip_ (w1 := ?_) (by rfl) rfl ?_ ?_
            rotate_left
            · go_simp
              rfl
            refine hK.out _ _ ⟨((cell_far (p := ⟨gb210, _, none⟩) NB198_210.out _).trans (((cell_far (p := ⟨gb210, _, none⟩) NB198_210.out _).trans (((cell_far (p := ⟨gb210, _, none⟩) NB198_210.out _).trans (hHeld.1)))))), ((cell_far (p := ⟨gb210, _, none⟩) NB198_210.out _).trans (((cell_far (p := ⟨gb210, _, none⟩) NB198_210.out _).trans (((cell_far (p := ⟨gb210, _, none⟩) NB198_210.out _).trans (hHeld.2.1)))))), ((cell_far (p := ⟨gb210, _, none⟩) NB198_210.out _).trans (((cell_far (p := ⟨gb210, _, none⟩) NB198_210.out _).trans (((cell_far (p := ⟨gb210, _, none⟩) NB198_210.out _).trans (hHeld.2.2.1)))))), ((cell_far (p := ⟨gb210, _, none⟩) (by first | exact Nat.ne_of_lt (Nat.lt_of_lt_of_le (by have := World.block_lt_of_cell? _ _ hw202_0; first | rwa [add_block] at this | exact this) GW210.out) | (rw [add_block]; exact Nat.ne_of_lt (Nat.lt_of_lt_of_le (by have := World.block_lt_of_cell? _ _ hw202_0; first | rwa [add_block] at this | exact this) GW210.out)) | (show (Addr.add _ _).block ≠ _; rw [add_block]; exact Nat.ne_of_lt (Nat.lt_of_lt_of_le (by have := World.block_lt_of_cell? _ _ hw202_0; first | rwa [add_block] at this | exact this) GW210.out)) | (dsimp only; exact Nat.ne_of_lt (Nat.lt_of_lt_of_le (by have := World.block_lt_of_cell? _ _ hw202_0; first | rwa [add_block] at this | exact this) GW210.out))) _).trans (((cell_far (p := ⟨gb210, _, none⟩) (by first | exact Nat.ne_of_lt (Nat.lt_of_lt_of_le (by have := World.block_lt_of_cell? _ _ hw202_0; first | rwa [add_block] at this | exact this) GW210.out) | (rw [add_block]; exact Nat.ne_of_lt (Nat.lt_of_lt_of_le (by have := World.block_lt_of_cell? _ _ hw202_0; first | rwa [add_block] at this | exact this) GW210.out)) | (show (Addr.add _ _).block ≠ _; rw [add_block]; exact Nat.ne_of_lt (Nat.lt_of_lt_of_le (by have := World.block_lt_of_cell? _ _ hw202_0; first | rwa [add_block] at this | exact this) GW210.out)) | (dsimp only; exact Nat.ne_of_lt (Nat.lt_of_lt_of_le (by have := World.block_lt_of_cell? _ _ hw202_0; first | rwa [add_block] at this | exact this) GW210.out))) _).trans (((cell_far (p := ⟨gb210, _, none⟩) (by first | exact Nat.ne_of_lt (Nat.lt_of_lt_of_le (by have := World.block_lt_of_cell? _ _ hw202_0; first | rwa [add_block] at this | exact this) GW210.out) | (rw [add_block]; exact Nat.ne_of_lt (Nat.lt_of_lt_of_le (by have := World.block_lt_of_cell? _ _ hw202_0; first | rwa [add_block] at this | exact this) GW210.out)) | (show (Addr.add _ _).block ≠ _; rw [add_block]; exact Nat.ne_of_lt (Nat.lt_of_lt_of_le (by have := World.block_lt_of_cell? _ _ hw202_0; first | rwa [add_block] at this | exact this) GW210.out)) | (dsimp only; exact Nat.ne_of_lt (Nat.lt_of_lt_of_le (by have := World.block_lt_of_cell? _ _ hw202_0; first | rwa [add_block] at this | exact this) GW210.out))) _).trans (hHeld.2.2.2))))))⟩ (fun hHeld => ?_)
            clear hK K
            refine pure_ (i := 12) (N := some 10) (v := ?_) (a' := ?_) #[true, true, true, true, true, true, true, true, true, true, true, true, true, false] rfl rfl (any_of HT_.out (by kernel_rfl)) (fun _ _ _ h => h) (Or.inl ⟨by rfl, ?_⟩) ?_ ?_
            rotate_left
            · intro w'
              go_simp
              with_reducible rfl
            rotate_left
            · simp only [Act.put, List.setIfInBounds_toArray, List.set_cons_zero, List.set_cons_succ, i64_w, i32_w]
              rfl
            refine pure_ (i := 13) (N := some 11) (v := ?_) (a' := ?_) #[true, true, true, true, true, true, true, true, true, true, true, true, true, true] rfl rfl (any_of HT_.out (by kernel_rfl)) (fun _ _ _ h => h) (Or.inl ⟨by rfl, ?_⟩) ?_ ?_
            rotate_left
            · intro w'
              go_simp
              with_reducible rfl
            rotate_left
            · simp only [Act.put, List.setIfInBounds_toArray, List.set_cons_zero, List.set_cons_succ, i64_w, i32_w]
              rfl
            refine done_ (done_of HT_.out (by kernel_rfl)) ?_
            obtain ⟨Ao25, co25, eo25⟩ := Kd.R_slice HO_7.out
            subst eo25
            go_upto_if 39 with (fail)
            go_cut [12] (fun v12 wc => ∃ (kq : Nat) (x12_14 : Int), v12 = .int .u64 x12_14 ∧ Aside0 (interchangelaw15_TagsRise.j1 kq l0 a1 true x7_1 x8_1 t208 t209 x12_14 t203 t204 t205 = some r) ∧ Aside0 (kq ≤ k1) ∧ Aside0 (Kd.R (Kd.int .u64) 22 wc w.heap.size (fun _ => True) (.slice Ao25 x7_1.length co25) x7_1) ∧ Aside0 (Kd.V k47 47 wc w.heap.size (fun k_ => some k_ ≠ ((.slice Ao25 x7_1.length co25) : Value).ownBlock ∧ k_ ≠ gb198 ∧ k_ ≠ gb210) (.slice Ao16 x199002_1.length co16) x199002_1) ∧ Aside0 (Kd.V k47 47 wc w.heap.size (fun k_ => some k_ ≠ ((.slice Ao25 x7_1.length co25) : Value).ownBlock ∧ k_ ≠ gb198 ∧ k_ ≠ gb210) (.slice Ao23 t205.length co23) t205) ∧ Aside0 (wc.heap[gb198]? = some (.cells #[.int .u64 x199000_1, .int .u64 x199001_1, (.slice Ao16 x199002_1.length co16)] 25 (0, 0))) ∧ Aside0 (wc.heap[gb210]? = some (.cells #[.int .u64 t203, .int .u64 t204, (.slice Ao23 t205.length co23)] 25 (0, 0))) ∧ Aside0 (Below w.heap.size w wc))
            case first =>
              have H := HC15.out
              clear HC15
              by_cases c26 : (x7_1.length : Int) > 0
              · rw [if_pos c26] at H
                have c26b0 : decide (0 < (x7_1.length : Int)) = true := decide_eq_true c26
                have c26b1 : decide (0 < x7_1.length) = true := decide_eq_true (by omega)
                clear c26
                (first | rw [c26b0] | (simp only [i64_w, i32_w]; rw [c26b0]) | skip)
                (first | rw [c26b1] | skip)
                obtain ⟨ji27, hji27⟩ : ∃ j_ : Int, (wrap64 ((x7_1.length : Int) - 1)) = j_ := ⟨_, rfl⟩
                replace H : (if 0 ≤ (ji27) then (if (ji27) < (x7_1.length : Int) then (interchangelaw15_TagsRise.j1 k1 l0 a1 true x7_1 x8_1 t208 t209 (rd x7_1 (ji27)) t203 t204 t205) else (none)) else (none)) = some r := by first | (rw [hji27] at H; exact H) | (simp only [hji27] at H ⊢; exact H)
                have hji27w : (IntKind.i64.wrap ((x7_1.length : Int) - 1)) = ji27 := (i64_w _).trans hji27
                by_cases c28 : 0 ≤ (ji27)
                · rw [if_pos c28] at H
                  have c28b0 : decide (0 ≤ (ji27)) = true := decide_eq_true c28
                  clear c28
                  by_cases c29 : (ji27) < (x7_1.length : Int)
                  · rw [if_pos c29] at H
                    have c29b0 : decide ((ji27) < (x7_1.length : Int)) = true := decide_eq_true c29
                    clear c29
                    have H' := Aside0.mk H
                    clear H
                    have p211 : 0 ≤ ((ji27) : Int) := of_decide_eq_true (by first | (with_reducible assumption) | assumption)
                    have q211 : (ji27) < (x7_1.length : Int) := of_decide_eq_true (by first | (with_reducible assumption) | assumption)
                    obtain ⟨ad211, e211, hx211_0⟩ := Kd.at_int (Kd.R_reads' HO_7.out).2.2 (ji27) p211 q211
                    cases e211
                    have hn211_0 : ad211.block ≠ gb210 := Kd.own_blk (Kd.R_ne HO_7.out BK210.out (by decide))
                    have hn211_1 : ad211.block ≠ gb210 := Kd.own_blk (Kd.R_ne HO_7.out BK210.out (by decide))
                    have hn211_2 : ad211.block ≠ gb210 := Kd.own_blk (Kd.R_ne HO_7.out BK210.out (by decide))
                    replace hx211_0 := (cell_far (p := ⟨gb210, 0, none⟩) (by first | (rw [add_block]; exact hn211_0) | (show (Addr.add _ _).block ≠ _; rw [add_block]; exact hn211_0) | exact hn211_0) (.int .u64 t203)).trans hx211_0
                    replace hx211_0 := (cell_far (p := ⟨gb210, 1, none⟩) (by first | (rw [add_block]; exact hn211_1) | (show (Addr.add _ _).block ≠ _; rw [add_block]; exact hn211_1) | exact hn211_1) (.int .u64 t204)).trans hx211_0
                    replace hx211_0 := (cell_far (p := ⟨gb210, 2, none⟩) (by first | (rw [add_block]; exact hn211_2) | (show (Addr.add _ _).block ≠ _; rw [add_block]; exact hn211_2) | exact hn211_2) (.slice Ao23 t205.length co23)).trans hx211_0
                    clear hn211_0
                    clear hn211_1
                    clear hn211_2
                    replace p211 := eq_true p211
                    replace q211 := eq_true q211
                    go_wp2
                    go_meet
                    case rel => exact ⟨_, (rd x7_1 (ji27)), (by first | rfl | (simp; done) | (simp only [← hji27] <;> (first | rfl | simp)) | (simp [*]; done)), H', ⟨by have := HK1.out; first | omega | exact Nat.le_refl _⟩, ⟨by (with_reducible repeat (first | apply Kd.R_alloc | apply Kd.R_drewN | apply Kd.R_drew)); exact Kd.R_mono (Kd.R_far (p := ⟨gb210, 2, none⟩) (Kd.R_far (p := ⟨gb210, 1, none⟩) (Kd.R_far (p := ⟨gb210, 0, none⟩) (Kd.R_types HO_7.out BK210.out (by decide)) (fun _ hk => hk.2) (.int .u64 t203)) (fun _ hk => hk.2) (.int .u64 t204)) (fun _ hk => hk.2) (.slice Ao23 t205.length co23)) (fun _ hk => trivial)⟩, ⟨by (with_reducible repeat (first | apply Kd.V_alloc | apply Kd.V_drewN | apply Kd.V_drew)); exact Kd.V_mono (Kd.V_far (p := ⟨gb210, 2, none⟩) (Kd.V_far (p := ⟨gb210, 1, none⟩) (Kd.V_far (p := ⟨gb210, 0, none⟩) (Kd.V_mono HO_199002.out (fun k_ hk => (⟨hk, hk.2.2⟩ : _ ∧ k_ ≠ gb210))) (fun _ hk => hk.2) (.int .u64 t203)) (fun _ hk => hk.2) (.int .u64 t204)) (fun _ hk => hk.2) (.slice Ao23 t205.length co23)) (fun _ hk => ⟨hk.1.1, ⟨hk.1.2.1, hk.1.2.2⟩⟩)⟩, ⟨by (with_reducible repeat (first | apply Kd.V_alloc | apply Kd.V_drewN | apply Kd.V_drew)); exact Kd.V_mono (Kd.V_far (p := ⟨gb210, 2, none⟩) (Kd.V_far (p := ⟨gb210, 1, none⟩) (Kd.V_far (p := ⟨gb210, 0, none⟩) (Kd.V_mono HO207.out (fun k_ hk => (⟨hk, hk.2.2⟩ : _ ∧ k_ ≠ gb210))) (fun _ hk => hk.2) (.int .u64 t203)) (fun _ hk => hk.2) (.int .u64 t204)) (fun _ hk => hk.2) (.slice Ao23 t205.length co23)) (fun _ hk => ⟨hk.1.1, ⟨hk.1.2.1, hk.1.2.2⟩⟩)⟩, ⟨by (with_reducible repeat (first | refine blk_drewN ?_ _ | refine blk_drew ?_ | refine blk_alloc ?_ _)); refine blk_far ?_ NB198_210.out _; (with_reducible repeat (first | refine blk_drewN ?_ _ | refine blk_drew ?_ | refine blk_alloc ?_ _)); refine blk_far ?_ NB198_210.out _; (with_reducible repeat (first | refine blk_drewN ?_ _ | refine blk_drew ?_ | refine blk_alloc ?_ _)); refine blk_far ?_ NB198_210.out _; (with_reducible repeat (first | refine blk_drewN ?_ _ | refine blk_drew ?_ | refine blk_alloc ?_ _)); exact BK198.out⟩, ⟨by (with_reducible repeat (first | refine blk_drewN ?_ _ | refine blk_drew ?_ | refine blk_alloc ?_ _)); refine blk_put (cs := #[.int .u64 t203, .int .u64 t204, .slice none 0 0]) ?_ 2 _ rfl; (with_reducible repeat (first | refine blk_drewN ?_ _ | refine blk_drew ?_ | refine blk_alloc ?_ _)); refine blk_put (cs := #[.int .u64 t203, .int .u64 0, .slice none 0 0]) ?_ 1 _ rfl; (with_reducible repeat (first | refine blk_drewN ?_ _ | refine blk_drew ?_ | refine blk_alloc ?_ _)); refine blk_put (cs := #[.int .u64 0, .int .u64 0, .slice none 0 0]) ?_ 0 _ rfl; (with_reducible repeat (first | refine blk_drewN ?_ _ | refine blk_drew ?_ | refine blk_alloc ?_ _)); exact BK210.out⟩, ⟨by repeat (first | (with_reducible first | exact HB.out | apply below_alloc | apply pw_below_drewN | apply below_drew1 | refine below_set ?_ GE198.out | refine below_set ?_ GE210.out) | exact HB.out)⟩⟩
                  · rw [if_neg c29] at H
                    exact absurd H (by simp)
                · rw [if_neg c28] at H
                  exact absurd H (by simp)
              · rw [if_neg c26] at H
                have c26b0 : decide (0 < (x7_1.length : Int)) = false := decide_eq_false c26
                have c26b1 : decide (0 < x7_1.length) = false := decide_eq_false (by omega)
                clear c26
                (first | rw [c26b0] | (simp only [i64_w, i32_w]; rw [c26b0]) | skip)
                (first | rw [c26b1] | skip)
                have H' := Aside0.mk H
                clear H
                go_wp2
                go_meet
                case rel => exact ⟨_, (0), (by first | rfl | (simp; done) | (simp [*]; done)), H', ⟨by have := HK1.out; first | omega | exact Nat.le_refl _⟩, ⟨by (with_reducible repeat (first | apply Kd.R_alloc | apply Kd.R_drewN | apply Kd.R_drew)); exact Kd.R_mono (Kd.R_far (p := ⟨gb210, 2, none⟩) (Kd.R_far (p := ⟨gb210, 1, none⟩) (Kd.R_far (p := ⟨gb210, 0, none⟩) (Kd.R_types HO_7.out BK210.out (by decide)) (fun _ hk => hk.2) (.int .u64 t203)) (fun _ hk => hk.2) (.int .u64 t204)) (fun _ hk => hk.2) (.slice Ao23 t205.length co23)) (fun _ hk => trivial)⟩, ⟨by (with_reducible repeat (first | apply Kd.V_alloc | apply Kd.V_drewN | apply Kd.V_drew)); exact Kd.V_mono (Kd.V_far (p := ⟨gb210, 2, none⟩) (Kd.V_far (p := ⟨gb210, 1, none⟩) (Kd.V_far (p := ⟨gb210, 0, none⟩) (Kd.V_mono HO_199002.out (fun k_ hk => (⟨hk, hk.2.2⟩ : _ ∧ k_ ≠ gb210))) (fun _ hk => hk.2) (.int .u64 t203)) (fun _ hk => hk.2) (.int .u64 t204)) (fun _ hk => hk.2) (.slice Ao23 t205.length co23)) (fun _ hk => ⟨hk.1.1, ⟨hk.1.2.1, hk.1.2.2⟩⟩)⟩, ⟨by (with_reducible repeat (first | apply Kd.V_alloc | apply Kd.V_drewN | apply Kd.V_drew)); exact Kd.V_mono (Kd.V_far (p := ⟨gb210, 2, none⟩) (Kd.V_far (p := ⟨gb210, 1, none⟩) (Kd.V_far (p := ⟨gb210, 0, none⟩) (Kd.V_mono HO207.out (fun k_ hk => (⟨hk, hk.2.2⟩ : _ ∧ k_ ≠ gb210))) (fun _ hk => hk.2) (.int .u64 t203)) (fun _ hk => hk.2) (.int .u64 t204)) (fun _ hk => hk.2) (.slice Ao23 t205.length co23)) (fun _ hk => ⟨hk.1.1, ⟨hk.1.2.1, hk.1.2.2⟩⟩)⟩, ⟨by (with_reducible repeat (first | refine blk_drewN ?_ _ | refine blk_drew ?_ | refine blk_alloc ?_ _)); refine blk_far ?_ NB198_210.out _; (with_reducible repeat (first | refine blk_drewN ?_ _ | refine blk_drew ?_ | refine blk_alloc ?_ _)); refine blk_far ?_ NB198_210.out _; (with_reducible repeat (first | refine blk_drewN ?_ _ | refine blk_drew ?_ | refine blk_alloc ?_ _)); refine blk_far ?_ NB198_210.out _; (with_reducible repeat (first | refine blk_drewN ?_ _ | refine blk_drew ?_ | refine blk_alloc ?_ _)); exact BK198.out⟩, ⟨by (with_reducible repeat (first | refine blk_drewN ?_ _ | refine blk_drew ?_ | refine blk_alloc ?_ _)); refine blk_put (cs := #[.int .u64 t203, .int .u64 t204, .slice none 0 0]) ?_ 2 _ rfl; (with_reducible repeat (first | refine blk_drewN ?_ _ | refine blk_drew ?_ | refine blk_alloc ?_ _)); refine blk_put (cs := #[.int .u64 t203, .int .u64 0, .slice none 0 0]) ?_ 1 _ rfl; (with_reducible repeat (first | refine blk_drewN ?_ _ | refine blk_drew ?_ | refine blk_alloc ?_ _)); refine blk_put (cs := #[.int .u64 0, .int .u64 0, .slice none 0 0]) ?_ 0 _ rfl; (with_reducible repeat (first | refine blk_drewN ?_ _ | refine blk_drew ?_ | refine blk_alloc ?_ _)); exact BK210.out⟩, ⟨by repeat (first | (with_reducible first | exact HB.out | apply below_alloc | apply pw_below_drewN | apply below_drew1 | refine below_set ?_ GE198.out | refine below_set ?_ GE210.out) | exact HB.out)⟩⟩
            case rest =>
              clear HC15
              try clear c1
              try clear c2
              try clear p2
              try clear q2
              try clear hx2
              try clear c4
              try clear c4b0
              try clear c4b1
              try clear c5
              try clear p6
              try clear c9
              try clear c11
              try clear c12
              try clear c12b0
              try clear c13
              try clear c13b0
              try clear c14
              try clear p20
              try clear q20
              try clear hx20
              try clear p21
              try clear q21
              try clear hx21
              try clear c26
              try clear c26b0
              try clear c26b1
              try clear c28
              try clear c28b0
              try clear c29
              try clear c29b0
              try clear hcz10_0
              try clear hcz10_1
              try clear hcz10_2
              try clear hfz10_0
              try clear hfz10_1
              try clear hfz10_2
              try clear hx202_0
              try clear hx211_0
              try clear p2
              try clear p202
              try clear p211
              try clear q202
              try clear q211
              obtain ⟨kq, x12_14, rfl, HA, HJ14, HO_7, HO_199002, HO_211002, BK198, BK210, HB⟩ := hcut
              cases kq with
              | zero => exact absurd HA.out (by simp [interchangelaw15_TagsRise.j1])
              | succ kj14 =>
                have H := HA.out
                clear HA
                simp only [interchangelaw15_TagsRise.j1] at H
                have HC30 := Aside0.mk H
                clear H
                go_upto_region 13 with (fail)
                go_cut [66] (fun v66 wc => ∃ (kq : Nat) (x66_29 : Bool), v66 = .bool x66_29 ∧ Aside0 (interchangelaw15_TagsRise.j2 kq l0 a1 true x7_1 x8_1 t209 x66_29 t203 t204 t205 = some r) ∧ Aside0 (kq ≤ kj14) ∧ Aside0 (Kd.R (Kd.int .u64) 22 wc w.heap.size (fun _ => True) (.slice Ao25 x7_1.length co25) x7_1) ∧ Aside0 (Kd.V k47 47 wc w.heap.size (fun k_ => some k_ ≠ ((.slice Ao25 x7_1.length co25) : Value).ownBlock ∧ k_ ≠ gb198 ∧ k_ ≠ gb210) (.slice Ao16 x199002_1.length co16) x199002_1) ∧ Aside0 (Kd.V k47 47 wc w.heap.size (fun k_ => some k_ ≠ ((.slice Ao25 x7_1.length co25) : Value).ownBlock ∧ k_ ≠ gb198 ∧ k_ ≠ gb210) (.slice Ao23 t205.length co23) t205) ∧ Aside0 (wc.heap[gb198]? = some (.cells #[.int .u64 x199000_1, .int .u64 x199001_1, (.slice Ao16 x199002_1.length co16)] 25 (0, 0))) ∧ Aside0 (wc.heap[gb210]? = some (.cells #[.int .u64 t203, .int .u64 t204, (.slice Ao23 t205.length co23)] 25 (0, 0))) ∧ Aside0 (Below w.heap.size w wc))
                case first =>
                  have H := HC30.out
                  clear HC30
                  by_cases c31 : 0 ≤ x8_1
                  · rw [if_pos c31] at H
                    have c31b0 : decide (0 ≤ x8_1) = true := decide_eq_true c31
                    clear c31
                    (first | rw [c31b0] | (simp only [i64_w, i32_w]; rw [c31b0]) | skip)
                    by_cases c32 : x8_1 < (l0.length : Int)
                    · rw [if_pos c32] at H
                      have c32b0 : decide (x8_1 < (l0.length : Int)) = true := decide_eq_true c32
                      clear c32
                      by_cases c33 : ((t209 == 0) != (decide ((rd l0 x8_1) > x12_14))) = true
                      · rw [if_pos c33] at H
                        have c33b0 : ((t209 == 0) != (decide ((rd l0 x8_1) > x12_14))) = true := c33
                        (try (have c33b1 : decide ((t209 == 0) = (decide ((rd l0 x8_1) > x12_14))) = false := by simpa using c33))
                        (try (have c33b2 : ((t209 == 0) == (decide ((rd l0 x8_1) > x12_14))) = false := by simpa using c33))
                        (try (have c33b3 : ¬ ((t209 == 0) = (decide ((rd l0 x8_1) > x12_14))) := by simpa using c33))
                        clear c33
                        have H' := Aside0.mk H
                        clear H
                        have p212 : 0 ≤ (x8_1 : Int) := of_decide_eq_true (by first | (with_reducible assumption) | assumption)
                        have q212 : x8_1 < (l0.length : Int) := of_decide_eq_true (by first | (with_reducible assumption) | assumption)
                        obtain ⟨ad212, e212, hx212_0⟩ := Kd.at_int HR0.out x8_1 p212 q212
                        obtain rfl : ad202 = ad212 := (by injection e212)
                        replace hx212_0 := (HB.out.cell (World.block_lt_of_cell? w _ hx212_0)).trans hx212_0
                        replace p212 := eq_true p212
                        replace q212 := eq_true q212
                        go_wp2
                        go_meet
                        case rel => exact ⟨_, (true), (by first | rfl | (simp; done) | (simp [*]; done)), H', ⟨by have := HK1.out; have := HJ14.out; first | omega | exact Nat.le_refl _⟩, ⟨by (with_reducible repeat (first | apply Kd.R_alloc | apply Kd.R_drewN | apply Kd.R_drew)); exact HO_7.out⟩, ⟨by (with_reducible repeat (first | apply Kd.V_alloc | apply Kd.V_drewN | apply Kd.V_drew)); exact HO_199002.out⟩, ⟨by (with_reducible repeat (first | apply Kd.V_alloc | apply Kd.V_drewN | apply Kd.V_drew)); exact HO_211002.out⟩, ⟨by (with_reducible repeat (first | refine blk_drewN ?_ _ | refine blk_drew ?_ | refine blk_alloc ?_ _)); exact BK198.out⟩, ⟨by (with_reducible repeat (first | refine blk_drewN ?_ _ | refine blk_drew ?_ | refine blk_alloc ?_ _)); exact BK210.out⟩, ⟨by repeat (first | (with_reducible first | exact HB.out | apply below_alloc | apply pw_below_drewN | apply below_drew1 | refine below_set ?_ GE198.out | refine below_set ?_ GE210.out) | exact HB.out)⟩⟩
                      · rw [if_neg c33] at H
                        have c33b0 : ((t209 == 0) != (decide ((rd l0 x8_1) > x12_14))) = false := by simpa using c33
                        (try (have c33b1 : decide ((t209 == 0) = (decide ((rd l0 x8_1) > x12_14))) = true := by simpa using c33))
                        (try (have c33b2 : ((t209 == 0) == (decide ((rd l0 x8_1) > x12_14))) = true := by simpa using c33))
                        clear c33
                        by_cases c34 : t209 = 0
                        · rw [if_pos c34] at H
                          have c34b0 : (t209 == 0) = true := beq_iff_eq.mpr c34
                          have c34b1 : (t209 != 0) = false := bne_eq_false_iff_eq.mpr c34
                          have c34c : decide ((rd l0 x8_1) > x12_14) = true := by rw [c34b0] at c33b0; revert c33b0; cases decide ((rd l0 x8_1) > x12_14) <;> simp
                          have c34d : decide (x12_14 < (rd l0 x8_1)) = true := c34c
                          clear c34
                          have H' := Aside0.mk H
                          clear H
                          have p212 : 0 ≤ (x8_1 : Int) := of_decide_eq_true (by first | (with_reducible assumption) | assumption)
                          have q212 : x8_1 < (l0.length : Int) := of_decide_eq_true (by first | (with_reducible assumption) | assumption)
                          obtain ⟨ad212, e212, hx212_0⟩ := Kd.at_int HR0.out x8_1 p212 q212
                          obtain rfl : ad202 = ad212 := (by injection e212)
                          replace hx212_0 := (HB.out.cell (World.block_lt_of_cell? w _ hx212_0)).trans hx212_0
                          replace p212 := eq_true p212
                          replace q212 := eq_true q212
                          go_wp2
                          go_meet
                          case rel => exact ⟨_, ((t208 != (IntKind.u64.wrap ((IntKind.u64.wrap ((x7_1.length : Int))) + 1)))), (by first | rfl | (simp; done) | (simp [*]; done)), H', ⟨by have := HK1.out; have := HJ14.out; first | omega | exact Nat.le_refl _⟩, ⟨by (with_reducible repeat (first | apply Kd.R_alloc | apply Kd.R_drewN | apply Kd.R_drew)); exact HO_7.out⟩, ⟨by (with_reducible repeat (first | apply Kd.V_alloc | apply Kd.V_drewN | apply Kd.V_drew)); exact HO_199002.out⟩, ⟨by (with_reducible repeat (first | apply Kd.V_alloc | apply Kd.V_drewN | apply Kd.V_drew)); exact HO_211002.out⟩, ⟨by (with_reducible repeat (first | refine blk_drewN ?_ _ | refine blk_drew ?_ | refine blk_alloc ?_ _)); exact BK198.out⟩, ⟨by (with_reducible repeat (first | refine blk_drewN ?_ _ | refine blk_drew ?_ | refine blk_alloc ?_ _)); exact BK210.out⟩, ⟨by repeat (first | (with_reducible first | exact HB.out | apply below_alloc | apply pw_below_drewN | apply below_drew1 | refine below_set ?_ GE198.out | refine below_set ?_ GE210.out) | exact HB.out)⟩⟩
                        · rw [if_neg c34] at H
                          have c34b0 : (t209 == 0) = false := beq_eq_false_iff_ne.mpr c34
                          have c34b1 : (t209 != 0) = true := bne_iff_ne.mpr c34
                          have c34c : decide ((rd l0 x8_1) > x12_14) = false := by rw [c34b0] at c33b0; revert c33b0; cases decide ((rd l0 x8_1) > x12_14) <;> simp
                          have c34d : decide (x12_14 < (rd l0 x8_1)) = false := c34c
                          have H' := Aside0.mk H
                          clear H
                          have p212 : 0 ≤ (x8_1 : Int) := of_decide_eq_true (by first | (with_reducible assumption) | assumption)
                          have q212 : x8_1 < (l0.length : Int) := of_decide_eq_true (by first | (with_reducible assumption) | assumption)
                          obtain ⟨ad212, e212, hx212_0⟩ := Kd.at_int HR0.out x8_1 p212 q212
                          obtain rfl : ad202 = ad212 := (by injection e212)
                          replace hx212_0 := (HB.out.cell (World.block_lt_of_cell? w _ hx212_0)).trans hx212_0
                          replace p212 := eq_true p212
                          replace q212 := eq_true q212
                          go_wp2
                          go_meet
                          case rel => exact ⟨_, (false), (by first | rfl | (simp; done) | (simp [*]; done)), H', ⟨by have := HK1.out; have := HJ14.out; first | omega | exact Nat.le_refl _⟩, ⟨by (with_reducible repeat (first | apply Kd.R_alloc | apply Kd.R_drewN | apply Kd.R_drew)); exact HO_7.out⟩, ⟨by (with_reducible repeat (first | apply Kd.V_alloc | apply Kd.V_drewN | apply Kd.V_drew)); exact HO_199002.out⟩, ⟨by (with_reducible repeat (first | apply Kd.V_alloc | apply Kd.V_drewN | apply Kd.V_drew)); exact HO_211002.out⟩, ⟨by (with_reducible repeat (first | refine blk_drewN ?_ _ | refine blk_drew ?_ | refine blk_alloc ?_ _)); exact BK198.out⟩, ⟨by (with_reducible repeat (first | refine blk_drewN ?_ _ | refine blk_drew ?_ | refine blk_alloc ?_ _)); exact BK210.out⟩, ⟨by repeat (first | (with_reducible first | exact HB.out | apply below_alloc | apply pw_below_drewN | apply below_drew1 | refine below_set ?_ GE198.out | refine below_set ?_ GE210.out) | exact HB.out)⟩⟩
                    · rw [if_neg c32] at H
                      exact absurd H (by simp)
                  · rw [if_neg c31] at H
                    exact absurd H (by simp)
                case rest =>
                  clear HC30
                  try clear c1
                  try clear c2
                  try clear p2
                  try clear q2
                  try clear hx2
                  try clear c3
                  try clear c4
                  try clear c4b0
                  try clear c4b1
                  try clear c5
                  try clear p6
                  try clear c9
                  try clear c11
                  try clear c12
                  try clear c12b0
                  try clear c13
                  try clear c13b0
                  try clear c14
                  try clear p20
                  try clear q20
                  try clear hx20
                  try clear p21
                  try clear q21
                  try clear hx21
                  try clear c26
                  try clear c26b0
                  try clear c26b1
                  try clear c28
                  try clear c28b0
                  try clear c29
                  try clear c29b0
                  try clear c31
                  try clear c31b0
                  try clear c32
                  try clear c32b0
                  try clear c33
                  try clear c33b0
                  try clear c33b1
                  try clear c33b2
                  try clear c34
                  try clear c34b0
                  try clear c34b1
                  try clear hcz10_0
                  try clear hcz10_1
                  try clear hcz10_2
                  try clear hfz10_0
                  try clear hfz10_1
                  try clear hfz10_2
                  try clear hx202_0
                  try clear hx211_0
                  try clear hx212_0
                  try clear p2
                  try clear p20
                  try clear p202
                  try clear p21
                  try clear p211
                  try clear p212
                  try clear p6
                  try clear q2
                  try clear q20
                  try clear q202
                  try clear q21
                  try clear q211
                  try clear q212
                  obtain ⟨kq, x66_29, rfl, HA, HJ29, HO_7, HO_199002, HO_211002, BK198, BK210, HB⟩ := hcut
                  cases kq with
                  | zero => exact absurd HA.out (by simp [interchangelaw15_TagsRise.j2])
                  | succ kj29 =>
                    have H := HA.out
                    clear HA
                    simp only [interchangelaw15_TagsRise.j2] at H
                    by_cases c35 : x66_29 = true
                    · subst c35
                      have H1 : (some false) = some r := by rw [if_pos rfl] at H; exact H
                      clear H
                      have H := H1
                      clear H1
                      exact absurd ((Option.some.inj H).trans hT_.out) (by decide)
                    · replace c35 := Bool.eq_false_iff.mpr c35
                      subst c35
                      have H1 : (if t209 = 0 then (if 0 ≤ x8_1 then (if x8_1 < (l0.length : Int) then (if x7_1.length < 17592186044416 then (interchangelaw15_TagsRise.l0 kj29 l0 a1 true (x7_1 ++ [rd l0 x8_1]) (wrap64 (x8_1 + 1)) t203 t204 t205) else (none)) else (none)) else (none)) else (interchangelaw15_TagsRise.l0 kj29 l0 a1 true x7_1 (wrap64 (x8_1 + 1)) t203 t204 t205)) = some r := by rw [if_neg (show ¬ (false = true) by decide)] at H; exact H
                      clear H
                      have H := H1
                      clear H1
                      by_cases c36 : t209 = 0
                      · rw [if_pos c36] at H
                        have c36b0 : (t209 == 0) = true := beq_iff_eq.mpr c36
                        have c36b1 : (t209 != 0) = false := bne_eq_false_iff_eq.mpr c36
                        clear c36
                        by_cases c37 : 0 ≤ x8_1
                        · rw [if_pos c37] at H
                          have c37b0 : decide (0 ≤ x8_1) = true := decide_eq_true c37
                          clear c37
                          by_cases c38 : x8_1 < (l0.length : Int)
                          · rw [if_pos c38] at H
                            have c38b0 : decide (x8_1 < (l0.length : Int)) = true := decide_eq_true c38
                            clear c38
                            by_cases c39 : x7_1.length < 17592186044416
                            · rw [if_pos c39] at H
                              have LMc39 := Aside0.mk c39
                              clear c39
                              obtain ⟨y214, hy214⟩ : ∃ y_ : List Int, y_ = (x7_1 ++ [rd l0 x8_1]) := ⟨_, rfl⟩
                              replace H : (interchangelaw15_TagsRise.l0 kj29 l0 a1 true y214 (wrap64 (x8_1 + 1)) t203 t204 t205) = some r := by first | (rw [hy214]; with_reducible exact H) | (have H2_ := (Option.bind_some _ _).symm.trans H; rw [hy214]; with_reducible exact H2_) | (have H2_ := (Option.bind_some _ _).symm.trans H; with_reducible exact H2_) | with_reducible exact H | (rw [hy214]; exact H) | exact H
                              have Ny214 := Aside0.mk hy214
                              clear hy214
                              have H' := Aside0.mk H
                              clear H
                              have p213 : 0 ≤ (x8_1 : Int) := of_decide_eq_true (by first | (with_reducible assumption) | assumption)
                              have q213 : x8_1 < (l0.length : Int) := of_decide_eq_true (by first | (with_reducible assumption) | assumption)
                              obtain ⟨ad213, e213, hx213_0⟩ := Kd.at_int HR0.out x8_1 p213 q213
                              obtain rfl : ad202 = ad213 := (by injection e213)
                              replace hx213_0 := (HB.out.cell (World.block_lt_of_cell? w _ hx213_0)).trans hx213_0
                              replace p213 := eq_true p213
                              replace q213 := eq_true q213
                              go_wp2_with (first | ((with_reducible refine gate_builtin (b := .append) (xs := #[.tmp 69, .tmp 74]) rfl ?_); (try (refine gate_guard (by rfl) ?_; dsimp only)); at_builtin; refine Kd.R_append (Kd.int .u64) (w0 := w) w.heap.size rfl (.tmp 69) (.tmp 74) 33 22 (.int .u64 0) 8 rfl Try.underlying33 info22 rfl (by decide) (by omega) (.slice Ao25 x7_1.length co25) x7_1 (rd l0 x8_1) [.int .u64 (rd l0 x8_1)] (fun _ => True) (fun _ => False) rfl rfl ?aP (fun _ hk => hk.elim) ?aF ?aO ?aB ?aS ?aL ?_; (case aP => exact rfl); (case aB => exact (by repeat (first | (with_reducible first | exact HB.out | apply below_alloc | apply pw_below_drewN | apply below_drew1 | refine below_set ?_ GE198.out | refine below_set ?_ GE210.out) | exact HB.out))); (case aF => exact (fun _ _ => trivial)); (case aO => exact (by (with_reducible repeat (first | apply Kd.R_alloc | apply Kd.R_drewN | apply Kd.R_drew)); exact HO_7.out)); (case aS => exact (below_size (by repeat (first | (with_reducible first | exact HB.out | apply below_alloc | apply pw_below_drewN | apply below_drew1 | refine below_set ?_ GE198.out | refine below_set ?_ GE210.out) | exact HB.out)))); (case aL => have := LMc39.out; omega); intro v215 w40 ho hb hg hat; rw [← Ny214.out] at ho; have n0_ := Aside0.mk (Kd.V_afterv (ok := (fun k_ => k_ ≠ gb198 ∧ k_ ≠ gb210)) (by (with_reducible repeat (first | apply Kd.V_alloc | apply Kd.V_drewN | apply Kd.V_drew)); exact Kd.V_mono HO_199002.out (fun _ hk => ⟨⟨hk.2.1, hk.2.2⟩, hk.1⟩)) hg hat); have n1_ := Aside0.mk (Kd.V_afterv (ok := (fun k_ => k_ ≠ gb198 ∧ k_ ≠ gb210)) (by (with_reducible repeat (first | apply Kd.V_alloc | apply Kd.V_drewN | apply Kd.V_drew)); exact Kd.V_mono HO_211002.out (fun _ hk => ⟨⟨hk.2.1, hk.2.2⟩, hk.1⟩)) hg hat); have n2_ := Aside0.mk (blk_grown (g := gb198) (o := .cells #[.int .u64 x199000_1, .int .u64 x199001_1, .slice Ao16 x199002_1.length co16] 25 (0, 0)) (by (with_reducible repeat (first | refine blk_drewN ?_ _ | refine blk_drew ?_ | refine blk_alloc ?_ _)); exact BK198.out) hg (Kd.R_ne HO_7.out BK198.out (by decide))); have n3_ := Aside0.mk (blk_grown (g := gb210) (o := .cells #[.int .u64 t203, .int .u64 t204, .slice Ao23 t205.length co23] 25 (0, 0)) (by (with_reducible repeat (first | refine blk_drewN ?_ _ | refine blk_drew ?_ | refine blk_alloc ?_ _)); exact BK210.out) hg (Kd.R_ne HO_7.out BK210.out (by decide))); have n4_ := Aside0.mk (hb); have n5_ := Aside0.mk (ho); clear HO_199002; clear HO_211002; clear BK198; clear BK210; clear HB; clear HO_7; have HO_199002 := n0_; have HO_211002 := n1_; have BK198 := n2_; have BK210 := n3_; have HB := n4_; have HO216 := n5_; clear n0_ n1_ n2_ n3_ n4_ n5_; clear ho hb hg hat; have hnb41 := NB210_198.out; have hnc41 := NB198_210.out; have hcz42_0 : w40.cell? ⟨gb210, 0, none⟩ = some (.int .u64 t203) := (blk_cell BK210.out 0).trans rfl; have hcz42_1 : w40.cell? ⟨gb210, 1, none⟩ = some (.int .u64 t204) := (blk_cell BK210.out 1).trans rfl; have hcz42_2 : w40.cell? ⟨gb210, 2, none⟩ = some (.slice Ao23 t205.length co23) := (blk_cell BK210.out 2).trans rfl; have hfz42_0 := blk_frozen BK210.out 0; have hfz42_1 := blk_frozen BK210.out 1; have hfz42_2 := blk_frozen BK210.out 2; have hcz43_0 : w40.cell? ⟨gb198, 0, none⟩ = some (.int .u64 x199000_1) := (blk_cell BK198.out 0).trans rfl; have hcz43_1 : w40.cell? ⟨gb198, 1, none⟩ = some (.int .u64 x199001_1) := (blk_cell BK198.out 1).trans rfl; have hcz43_2 : w40.cell? ⟨gb198, 2, none⟩ = some (.slice Ao16 x199002_1.length co16) := (blk_cell BK198.out 2).trans rfl; have hfz43_0 := blk_frozen BK198.out 0; have hfz43_1 := blk_frozen BK198.out 1; have hfz43_2 := blk_frozen BK198.out 2))
                              go_roundg kj29
                              case measure => have := HK1.out; have := HJ14.out; have := HJ29.out; omega
                              case rel => exact ⟨(y214), (wrap64 (x8_1 + 1)), (t203), (t204), (t205), (.slice Ao23 t205.length co23), (by first | rfl | (simp; done) | (simp [*]; done)), H', ⟨by have := HK1.out; have := HJ14.out; have := HJ29.out; omega⟩, ⟨by (with_reducible repeat (first | apply Kd.R_alloc | apply Kd.R_drewN | apply Kd.R_drew)); exact Kd.R_mono (Kd.R_far (p := ⟨gb198, 2, none⟩) (Kd.R_far (p := ⟨gb198, 1, none⟩) (Kd.R_far (p := ⟨gb198, 0, none⟩) (Kd.R_types HO216.out BK198.out (by decide)) (fun _ hk => hk.2) (.int .u64 t203)) (fun _ hk => hk.2) (.int .u64 t204)) (fun _ hk => hk.2) (.slice Ao23 t205.length co23)) (fun _ hk => trivial)⟩, ⟨by (with_reducible repeat (first | apply Kd.V_alloc | apply Kd.V_drewN | apply Kd.V_drew)); exact Kd.V_mono (Kd.V_far (p := ⟨gb198, 2, none⟩) (Kd.V_far (p := ⟨gb198, 1, none⟩) (Kd.V_far (p := ⟨gb198, 0, none⟩) (Kd.V_mono HO_211002.out (fun k_ hk => (⟨hk, hk.1.1⟩ : _ ∧ k_ ≠ gb198))) (fun _ hk => hk.2) (.int .u64 t203)) (fun _ hk => hk.2) (.int .u64 t204)) (fun _ hk => hk.2) (.slice Ao23 t205.length co23)) (fun _ hk => ⟨hk.1.2, hk.1.1.1⟩)⟩, ⟨by (with_reducible repeat (first | refine blk_drewN ?_ _ | refine blk_drew ?_ | refine blk_alloc ?_ _)); refine blk_put (cs := #[.int .u64 t203, .int .u64 t204, .slice Ao16 x199002_1.length co16]) ?_ 2 _ rfl; (with_reducible repeat (first | refine blk_drewN ?_ _ | refine blk_drew ?_ | refine blk_alloc ?_ _)); refine blk_put (cs := #[.int .u64 t203, .int .u64 x199001_1, .slice Ao16 x199002_1.length co16]) ?_ 1 _ rfl; (with_reducible repeat (first | refine blk_drewN ?_ _ | refine blk_drew ?_ | refine blk_alloc ?_ _)); refine blk_put (cs := #[.int .u64 x199000_1, .int .u64 x199001_1, .slice Ao16 x199002_1.length co16]) ?_ 0 _ rfl; (with_reducible repeat (first | refine blk_drewN ?_ _ | refine blk_drew ?_ | refine blk_alloc ?_ _)); exact BK198.out⟩, ⟨by repeat (first | (with_reducible first | exact HB.out | apply below_alloc | apply pw_below_drewN | apply below_drew1 | refine below_set ?_ GE198.out | refine below_set ?_ GE210.out) | exact HB.out)⟩⟩
                            · rw [if_neg c39] at H
                              exact absurd H (by simp)
                          · rw [if_neg c38] at H
                            exact absurd H (by simp)
                        · rw [if_neg c37] at H
                          exact absurd H (by simp)
                      · rw [if_neg c36] at H
                        have c36b0 : (t209 == 0) = false := beq_eq_false_iff_ne.mpr c36
                        have c36b1 : (t209 != 0) = true := bne_iff_ne.mpr c36
                        have H' := Aside0.mk H
                        clear H
                        have hnb44 := NB210_198.out
                        have hnc44 := NB198_210.out
                        have hcz45_0 : wc.cell? ⟨gb210, 0, none⟩ = some (.int .u64 t203) := (blk_cell BK210.out 0).trans rfl
                        have hcz45_1 : wc.cell? ⟨gb210, 1, none⟩ = some (.int .u64 t204) := (blk_cell BK210.out 1).trans rfl
                        have hcz45_2 : wc.cell? ⟨gb210, 2, none⟩ = some (.slice Ao23 t205.length co23) := (blk_cell BK210.out 2).trans rfl
                        have hfz45_0 := blk_frozen BK210.out 0
                        have hfz45_1 := blk_frozen BK210.out 1
                        have hfz45_2 := blk_frozen BK210.out 2
                        have hcz46_0 : wc.cell? ⟨gb198, 0, none⟩ = some (.int .u64 x199000_1) := (blk_cell BK198.out 0).trans rfl
                        have hcz46_1 : wc.cell? ⟨gb198, 1, none⟩ = some (.int .u64 x199001_1) := (blk_cell BK198.out 1).trans rfl
                        have hcz46_2 : wc.cell? ⟨gb198, 2, none⟩ = some (.slice Ao16 x199002_1.length co16) := (blk_cell BK198.out 2).trans rfl
                        have hfz46_0 := blk_frozen BK198.out 0
                        have hfz46_1 := blk_frozen BK198.out 1
                        have hfz46_2 := blk_frozen BK198.out 2
                        go_wp2
                        go_roundg kj29
                        case measure => have := HK1.out; have := HJ14.out; have := HJ29.out; omega
                        case rel => exact ⟨(x7_1), (wrap64 (x8_1 + 1)), (t203), (t204), (t205), (.slice Ao23 t205.length co23), (by first | rfl | (simp; done) | (simp [*]; done)), H', ⟨by have := HK1.out; have := HJ14.out; have := HJ29.out; omega⟩, ⟨by (with_reducible repeat (first | apply Kd.R_alloc | apply Kd.R_drewN | apply Kd.R_drew)); exact Kd.R_mono (Kd.R_far (p := ⟨gb198, 2, none⟩) (Kd.R_far (p := ⟨gb198, 1, none⟩) (Kd.R_far (p := ⟨gb198, 0, none⟩) (Kd.R_types HO_7.out BK198.out (by decide)) (fun _ hk => hk.2) (.int .u64 t203)) (fun _ hk => hk.2) (.int .u64 t204)) (fun _ hk => hk.2) (.slice Ao23 t205.length co23)) (fun _ hk => trivial)⟩, ⟨by (with_reducible repeat (first | apply Kd.V_alloc | apply Kd.V_drewN | apply Kd.V_drew)); exact Kd.V_mono (Kd.V_far (p := ⟨gb198, 2, none⟩) (Kd.V_far (p := ⟨gb198, 1, none⟩) (Kd.V_far (p := ⟨gb198, 0, none⟩) (Kd.V_mono HO_211002.out (fun k_ hk => (⟨hk, hk.2.1⟩ : _ ∧ k_ ≠ gb198))) (fun _ hk => hk.2) (.int .u64 t203)) (fun _ hk => hk.2) (.int .u64 t204)) (fun _ hk => hk.2) (.slice Ao23 t205.length co23)) (fun _ hk => ⟨hk.1.1, hk.1.2.1⟩)⟩, ⟨by (with_reducible repeat (first | refine blk_drewN ?_ _ | refine blk_drew ?_ | refine blk_alloc ?_ _)); refine blk_put (cs := #[.int .u64 t203, .int .u64 t204, .slice Ao16 x199002_1.length co16]) ?_ 2 _ rfl; (with_reducible repeat (first | refine blk_drewN ?_ _ | refine blk_drew ?_ | refine blk_alloc ?_ _)); refine blk_put (cs := #[.int .u64 t203, .int .u64 x199001_1, .slice Ao16 x199002_1.length co16]) ?_ 1 _ rfl; (with_reducible repeat (first | refine blk_drewN ?_ _ | refine blk_drew ?_ | refine blk_alloc ?_ _)); refine blk_put (cs := #[.int .u64 x199000_1, .int .u64 x199001_1, .slice Ao16 x199002_1.length co16]) ?_ 0 _ rfl; (with_reducible repeat (first | refine blk_drewN ?_ _ | refine blk_drew ?_ | refine blk_alloc ?_ _)); exact BK198.out⟩, ⟨by repeat (first | (with_reducible first | exact HB.out | apply below_alloc | apply pw_below_drewN | apply below_drew1 | refine below_set ?_ GE198.out | refine below_set ?_ GE210.out) | exact HB.out)⟩⟩
          · rw [if_neg c13] at H
            exact absurd H (by simp)
        · rw [if_neg c12] at H
          have c12b0 : decide (x8_1 < (l0.length : Int)) = false := decide_eq_false c12
          clear c12
          by_cases c47 : a1 < 0
          · rw [if_pos c47] at H
            have c47b0 : decide (a1 < 0) = true := decide_eq_true c47
            clear c47
            obtain rfl := Option.some.inj H
            go_wp2
            go_ret
            exact ⟨by first | rfl | (simp [errW_none, errW_some] <;> rfl) | (simp [*, errW_none, errW_some] <;> rfl) | (exfalso; simp only [decide_eq_true_eq, decide_eq_false_iff_not, beq_iff_eq, bne_iff_ne, ne_eq, beq_eq_false_iff_ne, bne_eq_false_iff_eq] at *; omega), by repeat (first | (with_reducible first | exact HB.out | apply below_alloc | apply pw_below_drewN | apply below_drew1 | refine below_set ?_ GE198.out) | exact HB.out)⟩
          · rw [if_neg c47] at H
            have c47b0 : decide (a1 < 0) = false := decide_eq_false c47
            clear c47
            by_cases c48 : a1 ≥ (x7_1.length : Int)
            · rw [if_pos c48] at H
              have c48b0 : decide ((x7_1.length : Int) ≤ a1) = true := decide_eq_true c48
              clear c48
              obtain rfl := Option.some.inj H
              obtain ⟨Ao49, co49, eo49⟩ := Kd.R_slice HO_7.out
              subst eo49
              go_wp2
              go_ret
              exact ⟨by first | rfl | (simp [errW_none, errW_some] <;> rfl) | (simp [*, errW_none, errW_some] <;> rfl) | (exfalso; simp only [decide_eq_true_eq, decide_eq_false_iff_not, beq_iff_eq, bne_iff_ne, ne_eq, beq_eq_false_iff_ne, bne_eq_false_iff_eq] at *; omega), by repeat (first | (with_reducible first | exact HB.out | apply below_alloc | apply pw_below_drewN | apply below_drew1 | refine below_set ?_ GE198.out) | exact HB.out)⟩
            · rw [if_neg c48] at H
              have c48b0 : decide ((x7_1.length : Int) ≤ a1) = false := decide_eq_false c48
              clear c48
              replace H := Option.bind_eq_some_iff.mp H
              obtain ⟨⟨t199, t200⟩, A500, H⟩ := H
              replace H : (if true = true then (if t200 = true then (if 0 ≤ a1 then (if a1 < (x7_1.length : Int) then (some (t199 == (rd x7_1 a1))) else (none)) else (none)) else (some false)) else (some false)) = some r := H
              have A50 := Aside0.mk A500
              clear A500
              have c51 : true = true := rfl
              · clear c51
                have H1 : (if t200 = true then (if 0 ≤ a1 then (if a1 < (x7_1.length : Int) then (some (t199 == (rd x7_1 a1))) else (none)) else (none)) else (some false)) = some r := by first | (rw [if_pos rfl] at H; exact H) | (rw [if_pos trivial] at H; exact H)
                clear H
                have H := H1
                clear H1
                by_cases c52 : t200 = true
                · subst c52
                  have H1 : (if 0 ≤ a1 then (if a1 < (x7_1.length : Int) then (some (t199 == (rd x7_1 a1))) else (none)) else (none)) = some r := by rw [if_pos rfl] at H; exact H
                  clear H
                  have H := H1
                  clear H1
                  by_cases c53 : 0 ≤ a1
                  · rw [if_pos c53] at H
                    have c53b0 : decide (0 ≤ a1) = true := decide_eq_true c53
                    clear c53
                    by_cases c54 : a1 < (x7_1.length : Int)
                    · rw [if_pos c54] at H
                      have c54b0 : decide (a1 < (x7_1.length : Int)) = true := decide_eq_true c54
                      clear c54
                      replace H : (if t199 = (rd x7_1 a1) then (some true) else (some false)) = some r := by
                        rw [← H]
                        by_cases hc_ : t199 = (rd x7_1 a1)
                        · rw [if_pos hc_]; exact congrArg some (Eq.symm (by first | exact decide_eq_true hc_ | exact beq_iff_eq.mpr hc_ | exact hc_ | (simp [hc_]; done) | simp_all))
                        · rw [if_neg hc_]; exact congrArg some (Eq.symm (by first | exact decide_eq_false hc_ | exact beq_eq_false_iff_ne.mpr hc_ | exact Bool.eq_false_iff.mpr hc_ | (simp [hc_]; done) | simp_all))
                      by_cases c55 : t199 = (rd x7_1 a1)
                      · rw [if_pos c55] at H
                        have c55b0 : (t199 == (rd x7_1 a1)) = true := beq_iff_eq.mpr c55
                        have c55b1 : (t199 != (rd x7_1 a1)) = false := bne_eq_false_iff_eq.mpr c55
                        clear c55
                        obtain rfl := Option.some.inj H
                        obtain ⟨Ao56, co56, eo56⟩ := Kd.R_slice HO_7.out
                        subst eo56
                        have hcz57_0 : wr.cell? ⟨gb198, 0, none⟩ = some (.int .u64 x199000_1) := (blk_cell BK198.out 0).trans rfl
                        have hcz57_1 : wr.cell? ⟨gb198, 1, none⟩ = some (.int .u64 x199001_1) := (blk_cell BK198.out 1).trans rfl
                        have hcz57_2 : wr.cell? ⟨gb198, 2, none⟩ = some (u199002) := (blk_cell BK198.out 2).trans rfl
                        have hfz57_0 := blk_frozen BK198.out 0
                        have hfz57_1 := blk_frozen BK198.out 1
                        have hfz57_2 := blk_frozen BK198.out 2
                        obtain ⟨Ao58, co58, eo58⟩ := Kd.V_slice HO_199002.out
                        subst eo58
                        go_wp2_with (first | ((with_reducible refine gate_callee (f := 15) rfl ?_); refine goesL_ (some 91) rfl rfl Try.func15 (by kernel_rfl) rfl #[.agg #[.int .u64 x199000_1, .int .u64 x199001_1, .slice Ao58 x199002_1.length co58], .int .u64 (IntKind.u64.wrap ((IntKind.u64.wrap (a1)) + 1))] rfl (by (try simp only [List.map_toArray, List.map_cons, List.map_nil]); first | done | rfl | (simp only [List.length_drop, List.length_take]; rfl)) ?_; (with_reducible refine (tags_Find.calls x199000_1 x199001_1 _ _ x199002_1 (IntKind.u64.wrap ((IntKind.u64.wrap (a1)) + 1)) t199 true _ ?side1 ?side2 A50.out).mono ?_); (case side1 => repeat (first | exact (Kd.V_reads' HO_199002.out).2.2 | (with_reducible refine Kd.C_alloc ?_ _) | (with_reducible refine Kd.C_drewN ?_ _) | (with_reducible refine Kd.C_drew ?_))); (case side2 => exact (Kd.V_reads' HO_199002.out).2.1); rintro e w59 ⟨rfl, hb⟩; refine ⟨_, rfl, ?_⟩; have n0_ := Aside0.mk (Kd.R_below (by (with_reducible repeat (first | apply Kd.R_alloc | apply Kd.R_drewN | apply Kd.R_drew)); exact HO_7.out) hb); have n1_ := Aside0.mk (Kd.V_below (by (with_reducible repeat (first | apply Kd.V_alloc | apply Kd.V_drewN | apply Kd.V_drew)); exact HO_199002.out) hb); have n2_ := Aside0.mk (blk_below (g := gb198) (o := .cells #[.int .u64 x199000_1, .int .u64 x199001_1, .slice Ao58 x199002_1.length co58] 25 (0, 0)) (by (with_reducible repeat (first | refine blk_drewN ?_ _ | refine blk_drew ?_ | refine blk_alloc ?_ _)); exact BK198.out) hb); have n3_ := Aside0.mk (below_step (by repeat (first | (with_reducible first | exact HB.out | apply below_alloc | apply pw_below_drewN | apply below_drew1 | refine below_set ?_ GE198.out) | exact HB.out)) hb); clear HO_7; clear HO_199002; clear BK198; clear HB; have HO_7 := n0_; have HO_199002 := n1_; have BK198 := n2_; have HB := n3_; clear n0_ n1_ n2_ n3_; (try clear hb); (try clear hb2); (try clear hk); (try clear hi); have p201 : 0 ≤ (a1 : Int) := of_decide_eq_true (by first | (with_reducible assumption) | assumption); have q201 : a1 < (x7_1.length : Int) := of_decide_eq_true (by first | (with_reducible assumption) | assumption); obtain ⟨ad201, e201, hx201_0⟩ := Kd.at_int (Kd.R_reads' HO_7.out).2.2 a1 p201 q201; cases e201; replace p201 := eq_true p201; replace q201 := eq_true q201))
                        go_ret
                        exact ⟨by first | rfl | (simp [errW_none, errW_some] <;> rfl) | (simp [*, errW_none, errW_some] <;> rfl) | (exfalso; simp only [decide_eq_true_eq, decide_eq_false_iff_not, beq_iff_eq, bne_iff_ne, ne_eq, beq_eq_false_iff_ne, bne_eq_false_iff_eq] at *; omega), by repeat (first | (with_reducible first | exact HB.out | apply below_alloc | apply pw_below_drewN | apply below_drew1 | refine below_set ?_ GE198.out) | exact HB.out)⟩
                      · rw [if_neg c55] at H
                        exact absurd ((Option.some.inj H).trans hT_.out) (by decide)
                    · rw [if_neg c54] at H
                      exact absurd H (by simp)
                  · rw [if_neg c53] at H
                    exact absurd H (by simp)
                · replace c52 := Bool.eq_false_iff.mpr c52
                  subst c52
                  have H1 : (some false) = some r := by rw [if_neg (show ¬ (false = true) by decide)] at H; exact H
                  clear H
                  have H := H1
                  clear H1
                  exact absurd ((Option.some.inj H).trans hT_.out) (by decide)
/-- THE ONE PURE STATEMENT of interchangelaw15_TagsRise: yours. -/
def interchangelaw15_TagsRise.Pure : Prop := ∀ (l0 : List Int) (a1 : Int), l0.length ≤ maxLen → l0.length * 8 ≤ 140737488351232 → (∀ x ∈ l0, (Lit.int .u64 x).wf = true) → (Lit.int .i64 a1).wf = true → ∃ k, interchangelaw15_TagsRise.f k l0 a1 = some true
theorem interchangelaw15_TagsRise.walk (P : interchangelaw15_TagsRise.Pure) (a0 : Option Addr) (len0 cap0 : Nat) (z0 : List Int) (a1 : Int) (w : World) (w0 : (a0 = none ∧ len0 = 0 ∧ cap0 = 0 ∧ z0 = []) ∨ ∃ x, a0 = some x ∧ len0 ≤ cap0 ∧ cap0 ≤ maxLen ∧ z0.length = cap0 ∧ (∀ i, i < z0.length → w.cell? (x.add i) = some (.int .u64 (z0.getD i 0))) ∧ ∀ n ∈ z0, (Lit.int .u64 n).wf = true) (y0 : len0 * 8 ≤ 140737488351232) (w1 : (Lit.int .i64 a1).wf = true) :
    Calls Try.prog 5 #[.slice a0 len0 cap0, .int .i64 a1] w fun e w' => e = .returned (.bool true) ∧ Below w.heap.size w w' := by
  obtain ⟨l0, rfl, hr0, hm0, hw0, hc0⟩ := ReadsInt.ofRowC w0
  obtain ⟨k, h⟩ := P l0 a1 hm0 y0 hw0 w1
  refine (interchangelaw15_TagsRise.calls k _ _ l0 a1 true w (Kd.C_of_reads (d := (0 : Int)) (h1 := fun _ => rfl) hr0) hc0 ⟨rfl⟩ h).mono ?_
  rintro e w' ⟨rfl, hd⟩
  exact ⟨rfl, hd⟩

end Go.Proofs.Ytoljcjlflanflaa.Q
