/- This text was written by a program of this session: what each Go function computes, as a Lean function, and that its call does so. -/
import Derived.Test.YtgiofigjnchfeaaQ0
import Derived.Test.YtgiofigjnchfeaaQ10
import Derived.Test.YtgiofigjnchfeaaQ11
import Derived.Test.YtgiofigjnchfeaaQE0
import Derived.Test.YtgiofigjnchfeaaH10
import Derived.Test.YtgiofigjnchfeaaH12
import Derived.Test.YtgiofigjnchfeaaH14
import Derived.Test.YtgiofigjnchfeaaV2
namespace Go.Proofs.Ytgiofigjnchfeaa.Q
open Go.RowKit Go.Proofs.YtgiofigjnchfeaaW.PrintWords Go.Proofs.YtgiofigjnchfeaaW.PrintLast Go.Proofs.YtgiofigjnchfeaaW.PrintMore
attribute [local go_sem] max2_int min2_int max_two min_two max_three min_three max_four min_four   -- for this text's walks alone
set_option linter.unusedVariables false
set_option linter.unusedSimpArgs false

attribute [local go_sem high] eqA29
/-! ### interchangelaw13_PoolDowns: function 5 -/
mutual
def interchangelaw13_PoolDowns.j0 : Nat → Int → Int → Bool → Bool → List Int → List (S29) → Option (Bool)
  | 0, _, _, _, _, _, _ => none
  | k + 1, x1, x2, x7, x33, x257000, x257001 => if x33 = true then (some x7) else ((pool_Down.f x257000 x257001 x1).bind fun bt259 => (interchangelaw13_PoolDowns.l0 k x1 x2 x7 bt259.2.2 0 0 x257000 x257001 bt259.1 bt259.2.1))
def interchangelaw13_PoolDowns.l0 : Nat → Int → Int → Bool → List Int → Int → Int → List Int → List (S29) → List Int → List (S29) → Option (Bool)
  | 0, _, _, _, _, _, _, _, _, _, _ => none
  | k + 1, x1, x2, x7, x10, x11, x12, x257000, x257001, x269000, x269001 => if x12 < (x257001.length : Int) then (if 0 ≤ x12 then ((pool_At.f x269000 x269001 ((rd_T29 x257001 x12).f0) ((rd_T29 x257001 x12).f1)).bind fun bt286 => (if (bt286.2.2.2.2 != (((rd_T29 x257001 x12).f0) != x1)) = true then (interchangelaw13_PoolDowns.j2 k x1 x2 x7 x10 x11 x12 true x257000 x257001 x269000 x269001) else (if bt286.2.2.2.2 = true then (interchangelaw13_PoolDowns.j2 k x1 x2 x7 x10 x11 x12 (!(bt286.1 == ((rd_T29 x257001 x12).f0)) || (!(bt286.2.1 == ((rd_T29 x257001 x12).f1)) || (!(bt286.2.2.1 == ((rd_T29 x257001 x12).f2)) || (!(bt286.2.2.2.1 == ((rd_T29 x257001 x12).f3)))))) x257000 x257001 x269000 x269001) else (interchangelaw13_PoolDowns.j2 k x1 x2 x7 x10 x11 x12 false x257000 x257001 x269000 x269001)))) else (none)) else ((pool_Lease.f x269000 x269001 x2).bind fun bt269 => (if x7 = true then (if (x10.length : Int) = x11 then (if bt269.2.2.2.2.2.2 = 0 then (if bt269.2.2.1 = x1 then (some false) else (if (x269000.length : Int) = (x257000.length : Int) then (if 0 ≤ x1 then (if x1 < (x269000.length : Int) then (some ((rd x269000 x1) == 0)) else (none)) else (none)) else (some false))) else (if (x269000.length : Int) = (x257000.length : Int) then (if 0 ≤ x1 then (if x1 < (x269000.length : Int) then (some ((rd x269000 x1) == 0)) else (none)) else (none)) else (some false))) else (some false)) else (some false)))
def interchangelaw13_PoolDowns.j2 : Nat → Int → Int → Bool → List Int → Int → Int → Bool → List Int → List (S29) → List Int → List (S29) → Option (Bool)
  | 0, _, _, _, _, _, _, _, _, _, _, _ => none
  | k + 1, x1, x2, x7, x10, x11, x12, x86, x257000, x257001, x269000, x269001 => if x86 = true then (some false) else (if 0 ≤ x12 then (if x12 < (x257001.length : Int) then (if ((rd_T29 x257001 x12).f0) = x1 then (if ((rd_T29 x257001 x12).f3) = 0 then (interchangelaw13_PoolDowns.l0 k x1 x2 x7 x10 x11 (wrap64 (x12 + 1)) x257000 x257001 x269000 x269001) else (interchangelaw13_PoolDowns.l0 k x1 x2 x7 x10 (wrap64 (x11 + 1)) (wrap64 (x12 + 1)) x257000 x257001 x269000 x269001)) else (interchangelaw13_PoolDowns.l0 k x1 x2 x7 x10 x11 (wrap64 (x12 + 1)) x257000 x257001 x269000 x269001)) else (none)) else (none))
end
def interchangelaw13_PoolDowns.f (k : Nat) (l0_0 : List Int) (l0_1 : List (S29)) (a1 : Int) (a2 : Int) : Option (Bool) := (interchangelaw13_shown.f k).bind fun t257 => ((interchangelaw13_few.f k l0_0 l0_1).bind fun t258 => (if t258 = true then (if a1 < 0 then (interchangelaw13_PoolDowns.j0 k a1 a2 true true l0_0 l0_1) else (interchangelaw13_PoolDowns.j0 k a1 a2 true (decide (a1 ≥ (l0_0.length : Int))) l0_0 l0_1)) else (interchangelaw13_PoolDowns.j0 k a1 a2 true true l0_0 l0_1)))
theorem interchangelaw13_PoolDowns.mono_l : ∀ k, (∀ y0 y1 y2 y3 y4 y5, LeO (interchangelaw13_PoolDowns.j0 k y0 y1 y2 y3 y4 y5) (interchangelaw13_PoolDowns.j0 (k + 1) y0 y1 y2 y3 y4 y5)) ∧ (∀ y0 y1 y2 y3 y4 y5 y6 y7 y8 y9, LeO (interchangelaw13_PoolDowns.l0 k y0 y1 y2 y3 y4 y5 y6 y7 y8 y9) (interchangelaw13_PoolDowns.l0 (k + 1) y0 y1 y2 y3 y4 y5 y6 y7 y8 y9)) ∧ (∀ y0 y1 y2 y3 y4 y5 y6 y7 y8 y9 y10, LeO (interchangelaw13_PoolDowns.j2 k y0 y1 y2 y3 y4 y5 y6 y7 y8 y9 y10) (interchangelaw13_PoolDowns.j2 (k + 1) y0 y1 y2 y3 y4 y5 y6 y7 y8 y9 y10))
  | 0 => ⟨fun _ _ _ _ _ _ r h => by simp [interchangelaw13_PoolDowns.j0] at h, fun _ _ _ _ _ _ _ _ _ _ r h => by simp [interchangelaw13_PoolDowns.l0] at h, fun _ _ _ _ _ _ _ _ _ _ _ r h => by simp [interchangelaw13_PoolDowns.j2] at h⟩
  | k + 1 => by
    obtain ⟨ih0, ih1, ih2⟩ := interchangelaw13_PoolDowns.mono_l k
    refine ⟨?_, ?_, ?_⟩
    · intro y0 y1 y2 y3 y4 y5
      unfold interchangelaw13_PoolDowns.j0
      repeat' first
      | (with_reducible exact ih0 _ _ _ _ _ _)
      | (with_reducible exact ih1 _ _ _ _ _ _ _ _ _ _)
      | (with_reducible exact ih2 _ _ _ _ _ _ _ _ _ _ _)
      | (with_reducible exact interchangelaw13_few.mono _ _ _)
      | (with_reducible exact interchangelaw13_shown.mono _)
      | (with_reducible exact LeO.refl _)
      | (with_reducible exact LeO.none _)
      | (with_reducible refine LeO.ite ?_ ?_)
      | (with_reducible refine LeO.bind ?_ (fun _ => ?_))
      | exact ih0 _ _ _ _ _ _
      | exact ih1 _ _ _ _ _ _ _ _ _ _
      | exact ih2 _ _ _ _ _ _ _ _ _ _ _
      | exact interchangelaw13_few.mono _ _ _
      | exact interchangelaw13_shown.mono _
      | exact LeO.none _
      | refine LeO.ite ?_ ?_
      | refine LeO.bind ?_ (fun _ => ?_)
    · intro y0 y1 y2 y3 y4 y5 y6 y7 y8 y9
      unfold interchangelaw13_PoolDowns.l0
      repeat' first
      | (with_reducible exact ih0 _ _ _ _ _ _)
      | (with_reducible exact ih1 _ _ _ _ _ _ _ _ _ _)
      | (with_reducible exact ih2 _ _ _ _ _ _ _ _ _ _ _)
      | (with_reducible exact interchangelaw13_few.mono _ _ _)
      | (with_reducible exact interchangelaw13_shown.mono _)
      | (with_reducible exact LeO.refl _)
      | (with_reducible exact LeO.none _)
      | (with_reducible refine LeO.ite ?_ ?_)
      | (with_reducible refine LeO.bind ?_ (fun _ => ?_))
      | exact ih0 _ _ _ _ _ _
      | exact ih1 _ _ _ _ _ _ _ _ _ _
      | exact ih2 _ _ _ _ _ _ _ _ _ _ _
      | exact interchangelaw13_few.mono _ _ _
      | exact interchangelaw13_shown.mono _
      | exact LeO.none _
      | refine LeO.ite ?_ ?_
      | refine LeO.bind ?_ (fun _ => ?_)
    · intro y0 y1 y2 y3 y4 y5 y6 y7 y8 y9 y10
      unfold interchangelaw13_PoolDowns.j2
      repeat' first
      | (with_reducible exact ih0 _ _ _ _ _ _)
      | (with_reducible exact ih1 _ _ _ _ _ _ _ _ _ _)
      | (with_reducible exact ih2 _ _ _ _ _ _ _ _ _ _ _)
      | (with_reducible exact interchangelaw13_few.mono _ _ _)
      | (with_reducible exact interchangelaw13_shown.mono _)
      | (with_reducible exact LeO.refl _)
      | (with_reducible exact LeO.none _)
      | (with_reducible refine LeO.ite ?_ ?_)
      | (with_reducible refine LeO.bind ?_ (fun _ => ?_))
      | exact ih0 _ _ _ _ _ _
      | exact ih1 _ _ _ _ _ _ _ _ _ _
      | exact ih2 _ _ _ _ _ _ _ _ _ _ _
      | exact interchangelaw13_few.mono _ _ _
      | exact interchangelaw13_shown.mono _
      | exact LeO.none _
      | refine LeO.ite ?_ ?_
      | refine LeO.bind ?_ (fun _ => ?_)
theorem interchangelaw13_PoolDowns.mono : ∀ a0 a1 a2 a3 k, LeO (interchangelaw13_PoolDowns.f k a0 a1 a2 a3) (interchangelaw13_PoolDowns.f (k + 1) a0 a1 a2 a3) := by
  intro a0 a1 a2 a3 k
  obtain ⟨ih0, ih1, ih2⟩ := interchangelaw13_PoolDowns.mono_l k
  unfold interchangelaw13_PoolDowns.f
  repeat' first
      | (with_reducible exact ih0 _ _ _ _ _ _)
      | (with_reducible exact ih1 _ _ _ _ _ _ _ _ _ _)
      | (with_reducible exact ih2 _ _ _ _ _ _ _ _ _ _ _)
      | (with_reducible exact interchangelaw13_few.mono _ _ _)
      | (with_reducible exact interchangelaw13_shown.mono _)
      | (with_reducible exact LeO.refl _)
      | (with_reducible exact LeO.none _)
      | (with_reducible refine LeO.ite ?_ ?_)
      | (with_reducible refine LeO.bind ?_ (fun _ => ?_))
      | exact ih0 _ _ _ _ _ _
      | exact ih1 _ _ _ _ _ _ _ _ _ _
      | exact ih2 _ _ _ _ _ _ _ _ _ _ _
      | exact interchangelaw13_few.mono _ _ _
      | exact interchangelaw13_shown.mono _
      | exact LeO.none _
      | refine LeO.ite ?_ ?_
      | refine LeO.bind ?_ (fun _ => ?_)
def interchangelaw13_PoolDowns.T10 : Bool × List (List Nat × List Nat) := (true, [([], []), ([], []), ([1], [1]), ([], []), ([2, 3], [2, 3]), ([4], [4]), ([5], [5]), ([], []), ([7], [7]), ([], []), ([8, 9], [8, 9]), ([10], [10]), ([11], [11]), ([0, 6, 12], [0, 6, 12]), ([13], [13]), ([14], [14]), ([14], [14]), ([], []), ([17, 15, 13, 0, 1, 2, 3, 4, 5, 6, 7, 8, 9, 10, 11, 12, 13, 14, 15, 17], [15, 17]), ([16, 18, 0, 1, 2, 3, 4, 5, 6, 7, 8, 9, 10, 11, 12, 13, 14, 15, 16, 17, 18], [16])])
def interchangelaw13_PoolDowns.B10 : List Nat := [0, 0, 2, 0, 14, 30, 62, 0, 128, 0, 896, 1920, 3968, 8191, 16383, 32767, 32767, 0, 196607, 524287]
theorem interchangelaw13_PoolDowns.tab10 : rtab .any (opsOf Try.f5 10) = interchangelaw13_PoolDowns.T10 := by kernel_rfl
theorem interchangelaw13_PoolDowns.bits10 : waitsOk interchangelaw13_PoolDowns.T10.2 interchangelaw13_PoolDowns.B10 = true := by kernel_rfl
def interchangelaw13_PoolDowns.T11 : Bool × List (List Nat × List Nat) := (true, [([], []), ([], []), ([1], [1]), ([], []), ([2, 3], [2, 3]), ([4], [4]), ([5], [5]), ([], []), ([6, 7], [6, 7]), ([0, 8], [0, 8]), ([9], [9]), ([10], [10]), ([11, 10, 10], [10, 11]), ([12], [12]), ([12], [12]), ([14, 12], [12, 14]), ([12], [12]), ([15, 16, 12], [12, 15, 16]), ([17, 12], [12, 17]), ([13, 18, 12], [12, 13, 18]), ([12, 19, 10], [10, 12, 19]), ([10, 20], [10, 20])])
def interchangelaw13_PoolDowns.B11 : List Nat := [0, 0, 2, 0, 14, 30, 62, 0, 254, 511, 1023, 2047, 4095, 8191, 8191, 24575, 8191, 122879, 253951, 524287, 1048575, 2097151]
theorem interchangelaw13_PoolDowns.tab11 : rtab .any (opsOf Try.f5 11) = interchangelaw13_PoolDowns.T11 := by kernel_rfl
theorem interchangelaw13_PoolDowns.bits11 : waitsOk interchangelaw13_PoolDowns.T11.2 interchangelaw13_PoolDowns.B11 = true := by kernel_rfl
set_option maxHeartbeats 8000000 in
set_option maxRecDepth 100000 in
theorem interchangelaw13_PoolDowns.calls (k : Nat) (A0_0 : Option Addr) (c0_0 : Nat) (l0_0 : List Int) (A0_1 : Option Addr) (c0_1 : Nat) (l0_1 : List (S29)) (a1 : Int) (a2 : Int) (r : Bool) (w : World) (hr0_0 : Kd.C (Kd.int .i64) w A0_0 l0_0.length l0_0) (hc0_0 : l0_0.length ≤ c0_0) (hr0_1 : Kd.C k29 w A0_1 l0_1.length l0_1) (hc0_1 : l0_1.length ≤ c0_1) (hT_ : Aside0 (r = true)) (h : interchangelaw13_PoolDowns.f k l0_0 l0_1 a1 a2 = some r) :
    Calls Try.prog 5 #[.agg #[.slice A0_0 l0_0.length c0_0, .slice A0_1 l0_1.length c0_1], .int .i64 a1, .int .i64 a2] w fun e w' => e = .returned (.bool r) ∧ Below w.heap.size w w' := by
  have hu25 := Try.underlying25
  have hu29 := Try.underlying29
  have HR0_0 := Aside0.mk hr0_0
  have HC0_0 := Aside0.mk hc0_0
  clear hr0_0 hc0_0
  have HR0_1 := Aside0.mk hr0_1
  have HC0_1 := Aside0.mk hc0_1
  clear hr0_1 hc0_1
  have HB := Aside0.mk (Below.refl w.heap.size w)
  have H : ((interchangelaw13_shown.f k).bind fun t257 => ((interchangelaw13_few.f k l0_0 l0_1).bind fun t258 => (if t258 = true then (if a1 < 0 then (interchangelaw13_PoolDowns.j0 k a1 a2 true true l0_0 l0_1) else (interchangelaw13_PoolDowns.j0 k a1 a2 true (decide (a1 ≥ (l0_0.length : Int))) l0_0 l0_1)) else (interchangelaw13_PoolDowns.j0 k a1 a2 true true l0_0 l0_1)))) = some r := h
  clear h
  replace H := Option.bind_eq_some_iff.mp H
  obtain ⟨t257, A40, H⟩ := H
  replace H : ((interchangelaw13_few.f k l0_0 l0_1).bind fun t258 => (if t258 = true then (if a1 < 0 then (interchangelaw13_PoolDowns.j0 k a1 a2 true true l0_0 l0_1) else (interchangelaw13_PoolDowns.j0 k a1 a2 true (decide (a1 ≥ (l0_0.length : Int))) l0_0 l0_1)) else (interchangelaw13_PoolDowns.j0 k a1 a2 true true l0_0 l0_1))) = some r := H
  obtain rfl : true = t257 := interchangelaw13_shown_true A40
  have A4 := Aside0.mk A40
  clear A40
  replace H := Option.bind_eq_some_iff.mp H
  obtain ⟨t258, A50, H⟩ := H
  replace H : (if t258 = true then (if a1 < 0 then (interchangelaw13_PoolDowns.j0 k a1 a2 true true l0_0 l0_1) else (interchangelaw13_PoolDowns.j0 k a1 a2 true (decide (a1 ≥ (l0_0.length : Int))) l0_0 l0_1)) else (interchangelaw13_PoolDowns.j0 k a1 a2 true true l0_0 l0_1)) = some r := H
  have A5 := Aside0.mk A50
  clear A50
  have HC6 := Aside0.mk H
  clear H
  go_enter Try.func5, Try.ntmps5
  go_upto_region 3 with (first | ((with_reducible refine gate_dst (N := 3) rfl ?_); (try (refine gate_guard (by rfl) ?_; dsimp only)); refine box_event ?hg (N := 3) ?hd (cs := #[.slice A0_0 l0_0.length c0_0, .slice A0_1 l0_1.length c0_1]) (t := 25) ?hr ?_; (case hd => rfl); (case hg => rfl); (case hr => first | (go_simp; done) | (go_simp; rfl)); intro gb256 hg w7 hbox hb; have BK256 := Aside0.mk (hbox); have GW256 := Aside0.mk ((by rw [hg]; exact (below_size (bl HB.out)) : w.heap.size ≤ gb256)); have GE256 := GW256; replace HB := hs HB hb; clear hb hbox hg) | ((with_reducible refine gate_callee (f := 10) rfl ?_); refine goesL_ (some 18) rfl rfl Try.func10 (by kernel_rfl) rfl #[] rfl (by (try simp only [List.map_toArray, List.map_cons, List.map_nil]); first | done | rfl | (simp only [List.length_drop, List.length_take]; rfl)) ?_; (with_reducible refine (interchangelaw13_shown.calls k  true _ ⟨rfl⟩ A4.out).mono ?_); rintro e w8 ⟨rfl, hb⟩; refine ⟨_, rfl, ?_⟩; replace BK256 := bb BK256 hb; replace HB := Aside0.mk (below_step (by repeat (first | (with_reducible first | exact HB.out | apply bA | apply bN | apply bD | refine bS ?_ ‹_›) | exact HB.out)) hb); (try clear hb); (try clear hb2); (try clear hk); (try clear hi); have hcz9_0 : w8.cell? ⟨gb256, 0, none⟩ = some (.slice A0_0 l0_0.length c0_0) := (blk_cell BK256.out 0).trans rfl; have hcz9_1 : w8.cell? ⟨gb256, 1, none⟩ = some (.slice A0_1 l0_1.length c0_1) := (blk_cell BK256.out 1).trans rfl; have hfz9_0 := blk_frozen BK256.out 0; have hfz9_1 := blk_frozen BK256.out 1) | ((with_reducible refine gate_callee (f := 11) rfl ?_); refine goesL_ (some 20) rfl rfl Try.func11 (by kernel_rfl) rfl #[.agg #[.slice A0_0 l0_0.length c0_0, .slice A0_1 l0_1.length c0_1]] rfl (by (try simp only [List.map_toArray, List.map_cons, List.map_nil]); first | done | rfl | (simp only [List.length_drop, List.length_take]; rfl)) ?_; (with_reducible refine (interchangelaw13_few.calls k _ _ l0_0 _ _ l0_1 t258 _ ?side1 ?side2 ?side3 ?side4 A5.out).mono ?_); (case side1 => exact ck (Kd.C_below HR0_0.out HB.out)); (case side2 => exact HC0_0.out); (case side3 => exact ck (Kd.C_below HR0_1.out HB.out)); (case side4 => exact HC0_1.out); rintro e w10 ⟨rfl, hb⟩; refine ⟨_, rfl, ?_⟩; replace BK256 := bb BK256 hb; replace HB := Aside0.mk (below_step (by repeat (first | (with_reducible first | exact HB.out | apply bA | apply bN | apply bD | refine bS ?_ ‹_›) | exact HB.out)) hb); (try clear hb); (try clear hb2); (try clear hk); (try clear hi)))
  (try simp only [Act.put, List.setIfInBounds_toArray, List.set_cons_zero, List.set_cons_succ])
  go_cut [33] (fun v33 wc => ∃ (kq : Nat) (x33_5 : Bool), v33 = .bool x33_5 ∧ Aside0 (interchangelaw13_PoolDowns.j0 kq a1 a2 true x33_5 l0_0 l0_1 = some r) ∧ Aside0 (kq ≤ k) ∧ Aside0 (wc.heap[gb256]? = some (.cells #[(.slice A0_0 l0_0.length c0_0), (.slice A0_1 l0_1.length c0_1)] 25 (0, 0))) ∧ Aside0 (Below w.heap.size w wc))
  case first =>
    have H := HC6.out
    clear HC6
    by_cases c11 : t258 = true
    · subst c11
      have H1 : (if a1 < 0 then (interchangelaw13_PoolDowns.j0 k a1 a2 true true l0_0 l0_1) else (interchangelaw13_PoolDowns.j0 k a1 a2 true (decide (a1 ≥ (l0_0.length : Int))) l0_0 l0_1)) = some r := by rw [if_pos rfl] at H; exact H
      clear H
      have H := H1
      clear H1
      by_cases c12 : a1 < 0
      · rw [if_pos c12] at H
        have c12b0 : decide (a1 < 0) = true := decide_eq_true c12
        clear c12
        (first | rw [c12b0] | (simp only [i64_w, i32_w]; rw [c12b0]) | skip)
        have H' := Aside0.mk H
        clear H
        go_wp2
        go_meet
        case rel => exact ⟨_, (true), (by first | rfl | (simp; done) | (simp [*]; done)), H', ⟨by first | omega | exact Nat.le_refl _⟩, ⟨by (with_reducible repeat (first | refine blk_drewN ?_ _ | refine blk_drew ?_ | refine blk_alloc ?_ _)); exact BK256.out⟩, ⟨by repeat (first | (with_reducible first | exact HB.out | apply below_alloc | apply pw_below_drewN | apply below_drew1 | refine below_set ?_ GE256.out) | exact HB.out)⟩⟩
      · rw [if_neg c12] at H
        have c12b0 : decide (a1 < 0) = false := decide_eq_false c12
        clear c12
        (first | rw [c12b0] | (simp only [i64_w, i32_w]; rw [c12b0]) | skip)
        have H' := Aside0.mk H
        clear H
        have hcz13_0 : w10.cell? ⟨gb256, 0, none⟩ = some (.slice A0_0 l0_0.length c0_0) := (blk_cell BK256.out 0).trans rfl
        have hcz13_1 : w10.cell? ⟨gb256, 1, none⟩ = some (.slice A0_1 l0_1.length c0_1) := (blk_cell BK256.out 1).trans rfl
        have hfz13_0 := blk_frozen BK256.out 0
        have hfz13_1 := blk_frozen BK256.out 1
        go_wp2
        go_meet
        case rel => exact ⟨_, (decide (a1 ≥ (l0_0.length : Int))), (by first | rfl | (simp; done) | (simp [*]; done)), H', ⟨by first | omega | exact Nat.le_refl _⟩, ⟨by (with_reducible repeat (first | refine blk_drewN ?_ _ | refine blk_drew ?_ | refine blk_alloc ?_ _)); exact BK256.out⟩, ⟨by repeat (first | (with_reducible first | exact HB.out | apply below_alloc | apply pw_below_drewN | apply below_drew1 | refine below_set ?_ GE256.out) | exact HB.out)⟩⟩
    · replace c11 := Bool.eq_false_iff.mpr c11
      subst c11
      have H1 : (interchangelaw13_PoolDowns.j0 k a1 a2 true true l0_0 l0_1) = some r := by rw [if_neg (show ¬ (false = true) by decide)] at H; exact H
      clear H
      have H := H1
      clear H1
      have H' := Aside0.mk H
      clear H
      go_wp2
      go_meet
      case rel => exact ⟨_, (true), (by first | rfl | (simp; done) | (simp [*]; done)), H', ⟨by first | omega | exact Nat.le_refl _⟩, ⟨by (with_reducible repeat (first | refine blk_drewN ?_ _ | refine blk_drew ?_ | refine blk_alloc ?_ _)); exact BK256.out⟩, ⟨by repeat (first | (with_reducible first | exact HB.out | apply below_alloc | apply pw_below_drewN | apply below_drew1 | refine below_set ?_ GE256.out) | exact HB.out)⟩⟩
  case rest =>
    clear HC6
    try clear c1
    try clear p2
    try clear c5
    try clear c10
    try clear c11
    try clear c12
    try clear c12b0
    try clear hcz13_0
    try clear hcz13_1
    try clear hcz9_0
    try clear hcz9_1
    try clear hfz13_0
    try clear hfz13_1
    try clear hfz9_0
    try clear hfz9_1
    obtain ⟨kq, x33_5, rfl, HA, HJ5, BK256, HB⟩ := hcut
    cases kq with
    | zero => exact absurd HA.out (by simp [interchangelaw13_PoolDowns.j0])
    | succ kj5 =>
      have H := HA.out
      clear HA
      simp only [interchangelaw13_PoolDowns.j0] at H
      by_cases c14 : x33_5 = true
      · subst c14
        have H1 : (some true) = some r := by rw [if_pos rfl] at H; exact H
        clear H
        have H := H1
        clear H1
        obtain rfl := Option.some.inj H
        go_wp2
        go_ret
        exact ⟨by first | rfl | (simp [errW_none, errW_some] <;> rfl) | (simp [*, errW_none, errW_some] <;> rfl) | (exfalso; simp only [decide_eq_true_eq, decide_eq_false_iff_not, beq_iff_eq, bne_iff_ne, ne_eq, beq_eq_false_iff_ne, bne_eq_false_iff_eq] at *; omega), by repeat (first | (with_reducible first | exact HB.out | apply below_alloc | apply pw_below_drewN | apply below_drew1 | refine below_set ?_ GE256.out) | exact HB.out)⟩
      · replace c14 := Bool.eq_false_iff.mpr c14
        subst c14
        have H1 : ((pool_Down.f l0_0 l0_1 a1).bind fun bt259 => (interchangelaw13_PoolDowns.l0 kj5 a1 a2 true bt259.2.2 0 0 l0_0 l0_1 bt259.1 bt259.2.1)) = some r := by rw [if_neg (show ¬ (false = true) by decide)] at H; exact H
        clear H
        have H := H1
        clear H1
        replace H := Option.bind_eq_some_iff.mp H
        obtain ⟨⟨t259, t262, t265⟩, A150, H⟩ := H
        replace H : (interchangelaw13_PoolDowns.l0 kj5 a1 a2 true t265 0 0 l0_0 l0_1 t259 t262) = some r := H
        have A15 := Aside0.mk A150
        clear A150
        have H' := Aside0.mk H
        clear H
        have hcz16_0 : wc.cell? ⟨gb256, 0, none⟩ = some (.slice A0_0 l0_0.length c0_0) := (blk_cell BK256.out 0).trans rfl
        have hcz16_1 : wc.cell? ⟨gb256, 1, none⟩ = some (.slice A0_1 l0_1.length c0_1) := (blk_cell BK256.out 1).trans rfl
        have hfz16_0 := blk_frozen BK256.out 0
        have hfz16_1 := blk_frozen BK256.out 1
        go_wp2_with (first | ((with_reducible refine gate_callee (f := 17) rfl ?_); refine goesL_ (some 38) rfl rfl Try.func17 (by kernel_rfl) rfl #[.agg #[.slice A0_0 l0_0.length c0_0, .slice A0_1 l0_1.length c0_1], .int .i64 a1] rfl (by (try simp only [List.map_toArray, List.map_cons, List.map_nil]); first | done | rfl | (simp only [List.length_drop, List.length_take]; rfl)) ?_; (with_reducible refine (pool_Down.calls (fun k_ => k_ < w.heap.size) _ _ l0_0 (fun k_ => k_ < w.heap.size) _ _ l0_1 a1 t259 t262 t265 _ ?side1 ?side2 A15.out).mono ?_); (case side1 => exact Kd.V_mk HC0_0.out (Kd.F_below (Kd.C_F (Kd.heap_int .i64) HR0_0.out) (by repeat (first | (with_reducible first | exact HB.out | apply bA | apply bN | apply bD | refine bS ?_ ‹_›) | exact HB.out)))); (case side2 => exact Kd.V_mk HC0_1.out (Kd.F_below (Kd.C_F k29_heap HR0_1.out) (by repeat (first | (with_reducible first | exact HB.out | apply bA | apply bN | apply bD | refine bS ?_ ‹_›) | exact HB.out)))); rintro e w17 ⟨v260, v263, v266, rfl, ho0, ho1, ho2, hb⟩; refine ⟨_, rfl, ?_⟩; have HO261 := Aside0.mk (Kd.V_lower (Kd.V_mono (ok' := fun k_ => some k_ ≠ (v266 : Value).ownBlock ∧ k_ ≠ gb256) ho0 (fun k_ hk_ => ⟨hk_.2, Or.elim hk_.1 (fun hs_ => Or.elim hs_ (fun hs_ => fun e_ => Nat.not_le.2 hs_ (by rw [e_]; exact GW256.out)) (fun hs_ => fun e_ => Nat.not_le.2 hs_ (by rw [e_]; exact GW256.out))) (fun hn_ => (Kd.freshB (bk BK256.out) k_ hn_))⟩)) (below_size (by repeat (first | (with_reducible first | exact HB.out | apply bA | apply bN | apply bD | refine bS ?_ ‹_›) | exact HB.out)))); have HO264 := Aside0.mk (Kd.V_lower (Kd.V_mono (ok' := fun k_ => some k_ ≠ (v266 : Value).ownBlock ∧ k_ ≠ gb256) ho1 (fun k_ hk_ => ⟨hk_.2, Or.elim hk_.1 (fun hs_ => Or.elim hs_ (fun hs_ => fun e_ => Nat.not_le.2 hs_ (by rw [e_]; exact GW256.out)) (fun hs_ => fun e_ => Nat.not_le.2 hs_ (by rw [e_]; exact GW256.out))) (fun hn_ => (Kd.freshB (bk BK256.out) k_ hn_))⟩)) (below_size (by repeat (first | (with_reducible first | exact HB.out | apply bA | apply bN | apply bD | refine bS ?_ ‹_›) | exact HB.out)))); have HO267 := Aside0.mk (Kd.R_lower (Kd.R_mono (ok' := fun k_ => True) ho2 (fun _ hk_ => trivial)) (below_size (by repeat (first | (with_reducible first | exact HB.out | apply bA | apply bN | apply bD | refine bS ?_ ‹_›) | exact HB.out)))); replace BK256 := bb BK256 hb; replace HB := Aside0.mk (below_step (by repeat (first | (with_reducible first | exact HB.out | apply bA | apply bN | apply bD | refine bS ?_ ‹_›) | exact HB.out)) hb); (try clear hb); (try clear hb2); (try clear hk); (try clear hi); (try clear ho0); (try clear ho1); (try clear ho2)) | ((with_reducible refine gate_dst (N := 9) rfl ?_); (try (refine gate_guard (by rfl) ?_; dsimp only)); refine box_event ?hg (N := 9) ?hd (cs := #[.slice none 0 0, .slice none 0 0]) (t := 25) ?hr ?_; (case hd => rfl); (case hg => rfl); (case hr => first | (go_simp; done) | (go_simp; rfl)); intro gb268 hg w18 hbox hb; have BK268 := Aside0.mk (hbox); have GW268 := Aside0.mk ((by rw [hg]; exact (below_size (by repeat (first | (with_reducible first | exact HB.out | apply bA | apply bN | apply bD | refine bS ?_ ‹_›) | exact HB.out))) : w.heap.size ≤ gb268)); have GE268 := GW268; have NB256_268 := nl BK256 hg; have NB268_256 := ng BK256 hg; replace HO261 := ve HO261 hg hb; replace HO264 := ve HO264 hg hb; replace HO267 := Aside0.mk (Kd.R_below (rk HO267.out) hb); replace BK256 := bb BK256 hb; replace HB := Aside0.mk (below_step (by repeat (first | (with_reducible first | exact HB.out | apply bA | apply bN | apply bD | refine bS ?_ ‹_›) | exact HB.out)) hb); clear hb hbox hg; obtain ⟨Ao19, co19, eo19⟩ := Kd.V_slice HO261.out; subst eo19; have hnb20 := NB268_256.out; have hnc20 := NB256_268.out; have hcz21_0 : w18.cell? ⟨gb268, 0, none⟩ = some (.slice none 0 0) := (blk_cell BK268.out 0).trans rfl; have hcz21_1 : w18.cell? ⟨gb268, 1, none⟩ = some (.slice none 0 0) := (blk_cell BK268.out 1).trans rfl; have hfz21_0 := blk_frozen BK268.out 0; have hfz21_1 := blk_frozen BK268.out 1; obtain ⟨Ao22, co22, eo22⟩ := Kd.V_slice HO264.out; subst eo22))
        go_loopg [11, 12] kj5 (fun kq v11 v12 w' => ∃ (x11_2 : Int) (x12_2 : Int), v11 = .int .i64 x11_2 ∧ v12 = .int .i64 x12_2 ∧ Aside0 (interchangelaw13_PoolDowns.l0 kq a1 a2 true t265 x11_2 x12_2 l0_0 l0_1 t259 t262 = some r) ∧ Aside0 (kq ≤ kj5) ∧ Aside0 (Kd.R (Kd.int .i64) 3 w' w.heap.size (fun _ => True) v266 t265) ∧ Aside0 (Kd.V (Kd.int .i64) 3 w' w.heap.size (fun k_ => some k_ ≠ (v266 : Value).ownBlock ∧ k_ ≠ gb256 ∧ k_ ≠ gb268) (.slice Ao19 t259.length co19) t259) ∧ Aside0 (Kd.V k29 29 w' w.heap.size (fun k_ => some k_ ≠ (v266 : Value).ownBlock ∧ k_ ≠ gb256 ∧ k_ ≠ gb268) (.slice Ao22 t262.length co22) t262) ∧ Aside0 (w'.heap[gb256]? = some (.cells #[(.slice A0_0 l0_0.length c0_0), (.slice A0_1 l0_1.length c0_1)] 25 (0, 0))) ∧ Aside0 (w'.heap[gb268]? = some (.cells #[(.slice Ao19 t259.length co19), (.slice Ao22 t262.length co22)] 25 (0, 0))) ∧ Aside0 (Below w.heap.size w w'))
        case atStart => exact ⟨(0), (0), (by first | rfl | (simp; done) | (simp [*]; done)), (by first | rfl | (simp; done) | (simp [*]; done)), H', ⟨Nat.le_refl _⟩, ⟨by (with_reducible repeat (first | apply Kd.R_alloc | apply Kd.R_drewN | apply Kd.R_drew)); exact Kd.R_mono (Kd.R_far (p := ⟨gb268, 1, none⟩) (Kd.R_far (p := ⟨gb268, 0, none⟩) (Kd.R_types HO267.out BK268.out (by decide)) (fun _ hk => hk.2) (.slice Ao19 t259.length co19)) (fun _ hk => hk.2) (.slice Ao22 t262.length co22)) (fun _ hk => trivial)⟩, ⟨by (with_reducible repeat (first | apply Kd.V_alloc | apply Kd.V_drewN | apply Kd.V_drew)); exact Kd.V_mono (Kd.V_far (p := ⟨gb268, 1, none⟩) (Kd.V_far (p := ⟨gb268, 0, none⟩) (Kd.V_mono HO261.out (fun k_ hk => (⟨hk, hk.2⟩ : _ ∧ k_ ≠ gb268))) (fun _ hk => hk.2) (.slice Ao19 t259.length co19)) (fun _ hk => hk.2) (.slice Ao22 t262.length co22)) (fun _ hk => ⟨hk.1.1.1, ⟨hk.1.1.2, hk.1.2⟩⟩)⟩, ⟨by (with_reducible repeat (first | apply Kd.V_alloc | apply Kd.V_drewN | apply Kd.V_drew)); exact Kd.V_mono (Kd.V_far (p := ⟨gb268, 1, none⟩) (Kd.V_far (p := ⟨gb268, 0, none⟩) (Kd.V_mono HO264.out (fun k_ hk => (⟨hk, hk.2⟩ : _ ∧ k_ ≠ gb268))) (fun _ hk => hk.2) (.slice Ao19 t259.length co19)) (fun _ hk => hk.2) (.slice Ao22 t262.length co22)) (fun _ hk => ⟨hk.1.1.1, ⟨hk.1.1.2, hk.1.2⟩⟩)⟩, ⟨by (with_reducible repeat (first | refine blk_drewN ?_ _ | refine blk_drew ?_ | refine blk_alloc ?_ _)); refine blk_far ?_ NB256_268.out _; (with_reducible repeat (first | refine blk_drewN ?_ _ | refine blk_drew ?_ | refine blk_alloc ?_ _)); refine blk_far ?_ NB256_268.out _; (with_reducible repeat (first | refine blk_drewN ?_ _ | refine blk_drew ?_ | refine blk_alloc ?_ _)); exact BK256.out⟩, ⟨by (with_reducible repeat (first | refine blk_drewN ?_ _ | refine blk_drew ?_ | refine blk_alloc ?_ _)); refine blk_put (cs := #[.slice Ao19 t259.length co19, .slice none 0 0]) ?_ 1 _ rfl; (with_reducible repeat (first | refine blk_drewN ?_ _ | refine blk_drew ?_ | refine blk_alloc ?_ _)); refine blk_put (cs := #[.slice none 0 0, .slice none 0 0]) ?_ 0 _ rfl; (with_reducible repeat (first | refine blk_drewN ?_ _ | refine blk_drew ?_ | refine blk_alloc ?_ _)); exact BK268.out⟩, ⟨by repeat (first | (with_reducible first | exact HB.out | apply below_alloc | apply pw_below_drewN | apply below_drew1 | refine below_set ?_ GE256.out | refine below_set ?_ GE268.out) | exact HB.out)⟩⟩
        case round =>
          clear H'
          try clear c1
          try clear c2
          try clear p2
          try clear c5
          try clear c10
          try clear c11
          try clear c12
          try clear c12b0
          try clear c14
          try clear c17
          try clear c20
          try clear hcz13_0
          try clear hcz13_1
          try clear hcz16_0
          try clear hcz16_1
          try clear hcz21_0
          try clear hcz21_1
          try clear hcz9_0
          try clear hcz9_1
          try clear hfz13_0
          try clear hfz13_1
          try clear hfz16_0
          try clear hfz16_1
          try clear hfz21_0
          try clear hfz21_1
          try clear hfz9_0
          try clear hfz9_1
          try clear p2
          obtain ⟨x11_2, x12_2, rfl, rfl, HA, HK2, HO_10, HO_269000, HO_269001, BK256, BK268, HB⟩ := hrel
          cases gk with
          | zero => exact absurd HA.out (by simp [interchangelaw13_PoolDowns.l0])
          | succ k2 =>
            have H := HA.out
            clear HA
            simp only [interchangelaw13_PoolDowns.l0] at H
            by_cases c23 : x12_2 < (l0_1.length : Int)
            · rw [if_pos c23] at H
              have c23b0 : decide (x12_2 < (l0_1.length : Int)) = true := decide_eq_true c23
              clear c23
              by_cases c24 : 0 ≤ x12_2
              · rw [if_pos c24] at H
                have c24b0 : decide (0 ≤ x12_2) = true := decide_eq_true c24
                clear c24
                replace H := Option.bind_eq_some_iff.mp H
                obtain ⟨⟨t286, t287, t288, t289, t290⟩, A250, H⟩ := H
                replace H : (if (t290 != (((rd_T29 l0_1 x12_2).f0) != a1)) = true then (interchangelaw13_PoolDowns.j2 k2 a1 a2 true t265 x11_2 x12_2 true l0_0 l0_1 t259 t262) else (if t290 = true then (interchangelaw13_PoolDowns.j2 k2 a1 a2 true t265 x11_2 x12_2 (!(t286 == ((rd_T29 l0_1 x12_2).f0)) || (!(t287 == ((rd_T29 l0_1 x12_2).f1)) || (!(t288 == ((rd_T29 l0_1 x12_2).f2)) || (!(t289 == ((rd_T29 l0_1 x12_2).f3)))))) l0_0 l0_1 t259 t262) else (interchangelaw13_PoolDowns.j2 k2 a1 a2 true t265 x11_2 x12_2 false l0_0 l0_1 t259 t262))) = some r := H
                have A25 := Aside0.mk A250
                clear A250
                have HC26 := Aside0.mk H
                clear H
                have hnb27 := NB256_268.out
                have hnc27 := NB268_256.out
                have hcz28_0 : wr.cell? ⟨gb256, 0, none⟩ = some (.slice A0_0 l0_0.length c0_0) := (blk_cell BK256.out 0).trans rfl
                have hcz28_1 : wr.cell? ⟨gb256, 1, none⟩ = some (.slice A0_1 l0_1.length c0_1) := (blk_cell BK256.out 1).trans rfl
                have hfz28_0 := blk_frozen BK256.out 0
                have hfz28_1 := blk_frozen BK256.out 1
                try go_wp2
                have n0_ := Aside0.mk (Kd.R_drew HO_10.out)
                have n1_ := Aside0.mk (Kd.V_drew HO_269000.out)
                have n2_ := Aside0.mk (Kd.V_drew HO_269001.out)
                have n3_ := Aside0.mk (blk_drew BK256.out)
                have n4_ := Aside0.mk (blk_drew BK268.out)
                have n5_ := Aside0.mk (below_drew1 HB.out)
                clear HO_10
                clear HO_269000
                clear HO_269001
                clear BK256
                clear BK268
                clear HB
                have HO_10 := n0_
                have HO_269000 := n1_
                have HO_269001 := n2_
                have BK256 := n3_
                have BK268 := n4_
                have HB := n5_
                clear n0_ n1_ n2_ n3_ n4_ n5_
                have p284 : 0 ≤ (x12_2 : Int) := of_decide_eq_true (by first | (with_reducible assumption) | assumption)
                have q284 : x12_2 < (l0_1.length : Int) := of_decide_eq_true (by first | (with_reducible assumption) | assumption)
                obtain ⟨ad284, e284, hx284_0, hx284_1, hx284_2, hx284_3⟩ := at_T29 HR0_1.out x12_2 p284 q284
                have hw284_3 := hx284_3
                have hw284_2 := hx284_2
                have hw284_1 := hx284_1
                have hw284_0 := hx284_0
                cases e284
                replace hx284_0 := (HB.out.cell (World.block_lt_of_cell? w _ hx284_0)).trans hx284_0
                replace hx284_1 := (HB.out.cell (World.block_lt_of_cell? w _ hx284_1)).trans hx284_1
                replace hx284_2 := (HB.out.cell (World.block_lt_of_cell? w _ hx284_2)).trans hx284_2
                replace hx284_3 := (HB.out.cell (World.block_lt_of_cell? w _ hx284_3)).trans hx284_3
                replace p284 := eq_true p284
                replace q284 := eq_true q284
                have p285 : 0 ≤ (x12_2 : Int) := of_decide_eq_true (by first | (with_reducible assumption) | assumption)
                have q285 : x12_2 < (l0_1.length : Int) := of_decide_eq_true (by first | (with_reducible assumption) | assumption)
                obtain ⟨ad285, e285, hx285_0, hx285_1, hx285_2, hx285_3⟩ := at_T29 HR0_1.out x12_2 p285 q285
                have hw285_3 := hx285_3
                have hw285_2 := hx285_2
                have hw285_1 := hx285_1
                have hw285_0 := hx285_0
                obtain rfl : ad284 = ad285 := (by injection e285)
                replace hx285_0 := (HB.out.cell (World.block_lt_of_cell? w _ hx285_0)).trans hx285_0
                replace hx285_1 := (HB.out.cell (World.block_lt_of_cell? w _ hx285_1)).trans hx285_1
                replace hx285_2 := (HB.out.cell (World.block_lt_of_cell? w _ hx285_2)).trans hx285_2
                replace hx285_3 := (HB.out.cell (World.block_lt_of_cell? w _ hx285_3)).trans hx285_3
                replace p285 := eq_true p285
                replace q285 := eq_true q285
                refine start_ (n := 20) (S := fun w' => w'.cell? ⟨gb268, 0, none⟩ = some (.slice Ao19 t259.length co19) ∧ w'.cell? ⟨gb268, 1, none⟩ = some (.slice Ao22 t262.length co22) ∧ w'.cell? ⟨gb256, 0, none⟩ = some (.slice A0_0 l0_0.length c0_0) ∧ w'.cell? ⟨gb256, 1, none⟩ = some (.slice (some ad284) l0_1.length c0_1) ∧ w'.cell? (ad284.add ((x12_2).toNat * 4)) = some (.int .i64 ((rd_T29 l0_1 x12_2).f0)) ∧ w'.cell? ⟨(ad284.add ((x12_2).toNat * 4)).block, (ad284.add ((x12_2).toNat * 4)).off + 1, none⟩ = some (.int .i64 ((rd_T29 l0_1 x12_2).f1)) ∧ w'.cell? ⟨(ad284.add ((x12_2).toNat * 4)).block, (ad284.add ((x12_2).toNat * 4)).off + 2, none⟩ = some (.int .i64 ((rd_T29 l0_1 x12_2).f2)) ∧ w'.cell? ⟨(ad284.add ((x12_2).toNat * 4)).block, (ad284.add ((x12_2).toNat * 4)).off + 3, none⟩ = some (.int .i64 ((rd_T29 l0_1 x12_2).f3)) ∧ w'.cell? (ad284.add ((x12_2).toNat * 4)) = some (.int .i64 ((rd_T29 l0_1 x12_2).f0)) ∧ w'.cell? ⟨(ad284.add ((x12_2).toNat * 4)).block, (ad284.add ((x12_2).toNat * 4)).off + 1, none⟩ = some (.int .i64 ((rd_T29 l0_1 x12_2).f1)) ∧ w'.cell? ⟨(ad284.add ((x12_2).toNat * 4)).block, (ad284.add ((x12_2).toNat * 4)).off + 2, none⟩ = some (.int .i64 ((rd_T29 l0_1 x12_2).f2)) ∧ w'.cell? ⟨(ad284.add ((x12_2).toNat * 4)).block, (ad284.add ((x12_2).toNat * 4)).off + 3, none⟩ = some (.int .i64 ((rd_T29 l0_1 x12_2).f3))) (ds := []) #[false, false, false, false, false, false, false, false, false, false, false, false, false, false, false, false, false, false, false, false] (by kernel_rfl) rfl rfl ⟨(blk_cell BK268.out 0).trans rfl, (blk_cell BK268.out 1).trans rfl, (blk_cell BK256.out 0).trans rfl, (blk_cell BK256.out 1).trans rfl, ((HB.out.cell (World.block_lt_of_cell? w _ hw284_0)).trans hw284_0), ((HB.out.cell (World.block_lt_of_cell? w _ hw284_1)).trans hw284_1), ((HB.out.cell (World.block_lt_of_cell? w _ hw284_2)).trans hw284_2), ((HB.out.cell (World.block_lt_of_cell? w _ hw284_3)).trans hw284_3), ((HB.out.cell (World.block_lt_of_cell? w _ hw285_0)).trans hw285_0), ((HB.out.cell (World.block_lt_of_cell? w _ hw285_1)).trans hw285_1), ((HB.out.cell (World.block_lt_of_cell? w _ hw285_2)).trans hw285_2), ((HB.out.cell (World.block_lt_of_cell? w _ hw285_3)).trans hw285_3)⟩ (fun hHeld => ?_); refine with_tabW interchangelaw13_PoolDowns.tab10 interchangelaw13_PoolDowns.bits10 (fun HT_ HW_ => ?_)
                generalize wr.drew = w29 at HO_10 HO_269000 HO_269001 BK256 BK268 HB hx284_0 hx284_1 hx284_2 hx284_3 hx285_0 hx285_1 hx285_2 hx285_3 hHeld ⊢
                refine pure_ (i := 1) (N := some 50) (v := ?_) (a' := ?_) #[false, true, false, false, false, false, false, false, false, false, false, false, false, false, false, false, false, false, false, false] rfl rfl (any_of HT_.out (by kernel_rfl)) (fun _ _ _ h => h) (Or.inl ⟨by rfl, ?_⟩) ?_ ?_
                rotate_left
                · intro w'
                  go_simp
                  with_reducible rfl
                rotate_left
                · simp only [Act.put, List.setIfInBounds_toArray, List.set_cons_zero, List.set_cons_succ, i64_w, i32_w]
                  rfl
                refine pure_ (i := 3) (N := some 52) (v := ?_) (a' := ?_) #[false, true, false, true, false, false, false, false, false, false, false, false, false, false, false, false, false, false, false, false] rfl rfl (any_of HT_.out (by kernel_rfl)) (fun _ _ _ h => h) (Or.inl ⟨by rfl, ?_⟩) ?_ ?_
                rotate_left
                · intro w'
                  go_simp
                  with_reducible rfl
                rotate_left
                · simp only [Act.put, List.setIfInBounds_toArray, List.set_cons_zero, List.set_cons_succ, i64_w, i32_w]
                  rfl
                refine pure_ (i := 7) (N := some 56) (v := ?_) (a' := ?_) #[false, true, false, true, false, false, false, true, false, false, false, false, false, false, false, false, false, false, false, false] rfl rfl (any_of HT_.out (by kernel_rfl)) (fun _ _ _ h => h) (Or.inl ⟨by rfl, ?_⟩) ?_ ?_
                rotate_left
                · intro w'
                  go_simp
                  with_reducible rfl
                rotate_left
                · simp only [Act.put, List.setIfInBounds_toArray, List.set_cons_zero, List.set_cons_succ, i64_w, i32_w]
                  rfl
                refine pure_ (i := 9) (N := some 58) (v := ?_) (a' := ?_) #[false, true, false, true, false, false, false, true, false, true, false, false, false, false, false, false, false, false, false, false] rfl rfl (any_of HT_.out (by kernel_rfl)) (fun _ _ _ h => h) (Or.inl ⟨by rfl, ?_⟩) ?_ ?_
                rotate_left
                · intro w'
                  go_simp
                  with_reducible rfl
                rotate_left
                · simp only [Act.put, List.setIfInBounds_toArray, List.set_cons_zero, List.set_cons_succ, i64_w, i32_w]
                  rfl
                refine take_ (i := 0) (N := some 49) (v := ?_) (a' := ?_) #[true, true, false, true, false, false, false, true, false, true, false, false, false, false, false, false, false, false, false, false] rfl rfl (take_ofW HT_.out HW_.out (by kernel_rfl)) (fun _ _ _ h => h) (Or.inl ⟨by rfl, ?_⟩) hHeld ?_ ?_
                rotate_left
                · rintro w' ⟨s0, s1, s2, s3, s4, s5, s6, s7, s8, s9, s10, s11⟩
                  go_simp
                  with_reducible rfl
                rotate_left
                · simp only [Act.put, List.setIfInBounds_toArray, List.set_cons_zero, List.set_cons_succ, i64_w, i32_w]
                  rfl
                refine take_ (i := 2) (N := some 51) (v := ?_) (a' := ?_) #[true, true, true, true, false, false, false, true, false, true, false, false, false, false, false, false, false, false, false, false] rfl rfl (take_ofW HT_.out HW_.out (by kernel_rfl)) (fun _ _ _ h => h) (Or.inl ⟨by rfl, ?_⟩) hHeld ?_ ?_
                rotate_left
                · rintro w' ⟨s0, s1, s2, s3, s4, s5, s6, s7, s8, s9, s10, s11⟩
                  go_simp
                  with_reducible rfl
                rotate_left
                · simp only [Act.put, List.setIfInBounds_toArray, List.set_cons_zero, List.set_cons_succ, i64_w, i32_w]
                  rfl
                refine pure_ (i := 4) (N := some 53) (v := ?_) (a' := ?_) #[true, true, true, true, true, false, false, true, false, true, false, false, false, false, false, false, false, false, false, false] rfl rfl (any_of HT_.out (by kernel_rfl)) (fun _ _ _ h => h) (Or.inl ⟨by rfl, ?_⟩) ?_ ?_
                rotate_left
                · intro w'
                  go_simp
                  with_reducible rfl
                rotate_left
                · simp only [Act.put, List.setIfInBounds_toArray, List.set_cons_zero, List.set_cons_succ, i64_w, i32_w]
                  rfl
                refine pure_ (i := 5) (N := some 54) (v := ?_) (a' := ?_) #[true, true, true, true, true, true, false, true, false, true, false, false, false, false, false, false, false, false, false, false] rfl rfl (any_of HT_.out (by kernel_rfl)) (fun _ _ _ h => h) (Or.inl ⟨by rfl, ?_⟩) ?_ ?_
                rotate_left
                · intro w'
                  go_simp
                  with_reducible rfl
                rotate_left
                · simp only [Act.put, List.setIfInBounds_toArray, List.set_cons_zero, List.set_cons_succ, i64_w, i32_w]
                  rfl
                refine take_ (i := 6) (N := some 55) (v := ?_) (a' := ?_) #[true, true, true, true, true, true, true, true, false, true, false, false, false, false, false, false, false, false, false, false] rfl rfl (take_ofW HT_.out HW_.out (by kernel_rfl)) (fun _ _ _ h => h) (Or.inl ⟨by rfl, ?_⟩) hHeld ?_ ?_
                rotate_left
                · rintro w' ⟨s0, s1, s2, s3, s4, s5, s6, s7, s8, s9, s10, s11⟩
                  go_simp
                  with_reducible rfl
                rotate_left
                · simp only [Act.put, List.setIfInBounds_toArray, List.set_cons_zero, List.set_cons_succ, i64_w, i32_w]
                  rfl
                refine take_ (i := 8) (N := some 57) (v := ?_) (a' := ?_) #[true, true, true, true, true, true, true, true, true, true, false, false, false, false, false, false, false, false, false, false] rfl rfl (take_ofW HT_.out HW_.out (by kernel_rfl)) (fun _ _ _ h => h) (Or.inl ⟨by rfl, ?_⟩) hHeld ?_ ?_
                rotate_left
                · rintro w' ⟨s0, s1, s2, s3, s4, s5, s6, s7, s8, s9, s10, s11⟩
                  go_simp
                  with_reducible rfl
                rotate_left
                · simp only [Act.put, List.setIfInBounds_toArray, List.set_cons_zero, List.set_cons_succ, i64_w, i32_w]
                  rfl
                refine pure_ (i := 10) (N := some 59) (v := ?_) (a' := ?_) #[true, true, true, true, true, true, true, true, true, true, true, false, false, false, false, false, false, false, false, false] rfl rfl (any_of HT_.out (by kernel_rfl)) (fun _ _ _ h => h) (Or.inl ⟨by rfl, ?_⟩) ?_ ?_
                rotate_left
                · intro w'
                  go_simp
                  with_reducible rfl
                rotate_left
                · simp only [Act.put, List.setIfInBounds_toArray, List.set_cons_zero, List.set_cons_succ, i64_w, i32_w]
                  rfl
                refine pure_ (i := 11) (N := some 60) (v := ?_) (a' := ?_) #[true, true, true, true, true, true, true, true, true, true, true, true, false, false, false, false, false, false, false, false] rfl rfl (any_of HT_.out (by kernel_rfl)) (fun _ _ _ h => h) (Or.inl ⟨by rfl, ?_⟩) ?_ ?_
                rotate_left
                · intro w'
                  go_simp
                  with_reducible rfl
                rotate_left
                · simp only [Act.put, List.setIfInBounds_toArray, List.set_cons_zero, List.set_cons_succ, i64_w, i32_w]
                  rfl
                refine take_ (i := 12) (N := some 61) (v := ?_) (a' := ?_) #[true, true, true, true, true, true, true, true, true, true, true, true, true, false, false, false, false, false, false, false] rfl rfl (take_ofW HT_.out HW_.out (by kernel_rfl)) (fun _ _ _ h => h) (Or.inl ⟨by rfl, ?_⟩) hHeld ?_ ?_
                rotate_left
                · rintro w' ⟨s0, s1, s2, s3, s4, s5, s6, s7, s8, s9, s10, s11⟩
                  go_simp
                  with_reducible rfl
                rotate_left
                · simp only [Act.put, List.setIfInBounds_toArray, List.set_cons_zero, List.set_cons_succ, i64_w, i32_w]
                  rfl
                refine join_ (σ := Nat) 2 #[true, true, true, true, true, true, true, true, true, true, true, true, true, true, true, true, true, true, false, false] (fun s_ => [(62, .tuple #[.agg #[.int .i64 t286, .int .i64 t287, .int .i64 t288, .int .i64 t289], .bool t290]), (13, .pointer (some ⟨s_, 0, none⟩)), (48, .tuple #[.agg #[.int .i64 t286, .int .i64 t287, .int .i64 t288, .int .i64 t289], .bool t290]), (63, .agg #[.int .i64 t286, .int .i64 t287, .int .i64 t288, .int .i64 t289]), (64, .bool t290)]) (fun s_ w' => (w'.cell? ⟨gb268, 0, none⟩ = some (.slice Ao19 t259.length co19) ∧ w'.cell? ⟨gb268, 1, none⟩ = some (.slice Ao22 t262.length co22) ∧ w'.cell? ⟨gb256, 0, none⟩ = some (.slice A0_0 l0_0.length c0_0) ∧ w'.cell? ⟨gb256, 1, none⟩ = some (.slice (some ad284) l0_1.length c0_1) ∧ w'.cell? (ad284.add ((x12_2).toNat * 4)) = some (.int .i64 ((rd_T29 l0_1 x12_2).f0)) ∧ w'.cell? ⟨(ad284.add ((x12_2).toNat * 4)).block, (ad284.add ((x12_2).toNat * 4)).off + 1, none⟩ = some (.int .i64 ((rd_T29 l0_1 x12_2).f1)) ∧ w'.cell? ⟨(ad284.add ((x12_2).toNat * 4)).block, (ad284.add ((x12_2).toNat * 4)).off + 2, none⟩ = some (.int .i64 ((rd_T29 l0_1 x12_2).f2)) ∧ w'.cell? ⟨(ad284.add ((x12_2).toNat * 4)).block, (ad284.add ((x12_2).toNat * 4)).off + 3, none⟩ = some (.int .i64 ((rd_T29 l0_1 x12_2).f3)) ∧ w'.cell? (ad284.add ((x12_2).toNat * 4)) = some (.int .i64 ((rd_T29 l0_1 x12_2).f0)) ∧ w'.cell? ⟨(ad284.add ((x12_2).toNat * 4)).block, (ad284.add ((x12_2).toNat * 4)).off + 1, none⟩ = some (.int .i64 ((rd_T29 l0_1 x12_2).f1)) ∧ w'.cell? ⟨(ad284.add ((x12_2).toNat * 4)).block, (ad284.add ((x12_2).toNat * 4)).off + 2, none⟩ = some (.int .i64 ((rd_T29 l0_1 x12_2).f2)) ∧ w'.cell? ⟨(ad284.add ((x12_2).toNat * 4)).block, (ad284.add ((x12_2).toNat * 4)).off + 3, none⟩ = some (.int .i64 ((rd_T29 l0_1 x12_2).f3))) ∧ (Kd.R (Kd.int .i64) 3 w' w.heap.size (fun _ => True) v266 t265) ∧ (Kd.V (Kd.int .i64) 3 w' w.heap.size (fun k_ => some k_ ≠ (v266 : Value).ownBlock ∧ k_ ≠ gb256 ∧ k_ ≠ gb268 ∧ k_ ≠ s_) (.slice Ao19 t259.length co19) t259) ∧ (Kd.V k29 29 w' w.heap.size (fun k_ => some k_ ≠ (v266 : Value).ownBlock ∧ k_ ≠ gb256 ∧ k_ ≠ gb268 ∧ k_ ≠ s_) (.slice Ao22 t262.length co22) t262) ∧ (w'.heap[gb256]? = some (.cells #[.slice A0_0 l0_0.length c0_0, .slice (some ad284) l0_1.length c0_1] 25 (0, 0))) ∧ (w'.heap[gb268]? = some (.cells #[.slice Ao19 t259.length co19, .slice Ao22 t262.length co22] 25 (0, 0))) ∧ (w'.heap[s_]? = some (.cells #[.int .i64 0, .int .i64 0, .int .i64 0, .int .i64 0] 29 (0, 0))) ∧ (w.heap.size ≤ s_) ∧ (w.heap.size ≤ s_) ∧ (gb256 ≠ s_) ∧ (s_ ≠ gb256) ∧ (gb268 ≠ s_) ∧ (s_ ≠ gb268) ∧ (Below w.heap.size w w')) ?_ ?_
                rotate_left
                · intro hCont
                  refine two_ (i := 13) (j := 17) (Ni := some 62) (Nj := some 13) #[true, true, true, true, true, true, true, true, true, true, true, true, true, true, false, false, false, false, false, false] #[true, true, true, true, true, true, true, true, true, true, true, true, true, false, false, false, false, true, false, false] rfl rfl rfl rfl (two_of HT_.out (by kernel_rfl)) (by decide) (by decide) (fun K hK => ?_) (fun K hK => ?_)
                  · skip
                    refine goes_ Try.func16 (by kernel_rfl) rfl #[.agg #[.slice Ao19 t259.length co19, .slice Ao22 t262.length co22], .int .i64 ((rd_T29 l0_1 x12_2).f0), .int .i64 ((rd_T29 l0_1 x12_2).f1)] (by rfl) rfl rfl (by (try simp only [List.map_toArray, List.map_cons, List.map_nil]); first | done | rfl | (simp only [List.length_drop, List.length_take]; rfl)) ?_
                    with_reducible refine (pool_At.calls _ _ t259 _ _ t262 ((rd_T29 l0_1 x12_2).f0) ((rd_T29 l0_1 x12_2).f1) t286 t287 t288 t289 t290 _ ?side1 ?side2 ?side3 ?side4 A25.out).mono ?_
                    (case side1 => repeat (first | exact (Kd.V_reads' HO_269000.out).2.2 | (with_reducible refine Kd.C_alloc ?_ _) | (with_reducible refine Kd.C_drewN ?_ _) | (with_reducible refine Kd.C_drew ?_)))
                    (case side2 => exact (Kd.V_reads' HO_269000.out).2.1)
                    (case side3 => repeat (first | exact (Kd.V_reads' HO_269001.out).2.2 | (with_reducible refine Kd.C_alloc ?_ _) | (with_reducible refine Kd.C_drewN ?_ _) | (with_reducible refine Kd.C_drew ?_)))
                    (case side4 => exact (Kd.V_reads' HO_269001.out).2.1)
                    rintro e w30 ⟨rfl, hb⟩
                    refine ⟨_, rfl, ?_⟩
                    have n0_ := Aside0.mk (Kd.R_below (rk HO_10.out) hb)
                    have n1_ := Aside0.mk (Kd.V_below (vk HO_269000.out) hb)
                    have n2_ := Aside0.mk (Kd.V_below (vk HO_269001.out) hb)
                    have n3_ := Aside0.mk (blk_below (bk BK256.out) hb)
                    have n4_ := Aside0.mk (blk_below (bk BK268.out) hb)
                    have n5_ := Aside0.mk (below_step (by repeat (first | (with_reducible first | exact HB.out | apply bA | apply bN | apply bD | refine bS ?_ ‹_›) | exact HB.out)) hb)
                    clear HO_10
                    clear HO_269000
                    clear HO_269001
                    clear BK256
                    clear BK268
                    clear HB
                    have HO_10 := n0_
                    have HO_269000 := n1_
                    have HO_269001 := n2_
                    have BK256 := n3_
                    have BK268 := n4_
                    have HB := n5_
                    clear n0_ n1_ n2_ n3_ n4_ n5_
                    (try clear hb)
                    (try clear hb2)
                    (try clear hk)
                    (try clear hi)
                    refine hK.out _ _ ⟨(blk_cell BK268.out 0).trans rfl, (blk_cell BK268.out 1).trans rfl, (blk_cell BK256.out 0).trans rfl, (blk_cell BK256.out 1).trans rfl, ((HB.out.cell (World.block_lt_of_cell? w _ hw284_0)).trans hw284_0), ((HB.out.cell (World.block_lt_of_cell? w _ hw284_1)).trans hw284_1), ((HB.out.cell (World.block_lt_of_cell? w _ hw284_2)).trans hw284_2), ((HB.out.cell (World.block_lt_of_cell? w _ hw284_3)).trans hw284_3), ((HB.out.cell (World.block_lt_of_cell? w _ hw285_0)).trans hw285_0), ((HB.out.cell (World.block_lt_of_cell? w _ hw285_1)).trans hw285_1), ((HB.out.cell (World.block_lt_of_cell? w _ hw285_2)).trans hw285_2), ((HB.out.cell (World.block_lt_of_cell? w _ hw285_3)).trans hw285_3)⟩ (fun hHeld => ?_)
                    clear hK K
                    refine norm_ (a' := ?_) ?_ ?_
                    rotate_left
                    · show Act.put _ (some 62) _ = _
                      simp only [Act.put, List.setIfInBounds_toArray, List.set_cons_zero, List.set_cons_succ, i64_w, i32_w]
                      rfl
                    refine pure_ (i := 14) (N := some 48) (v := ?_) (a' := ?_) #[true, true, true, true, true, true, true, true, true, true, true, true, true, true, true, false, false, false, false, false] rfl rfl (any_of HT_.out (by kernel_rfl)) (fun _ _ _ h => h) (Or.inl ⟨by rfl, ?_⟩) ?_ ?_
                    rotate_left
                    · intro w'
                      go_simp
                      with_reducible rfl
                    rotate_left
                    · simp only [Act.put, List.setIfInBounds_toArray, List.set_cons_zero, List.set_cons_succ, i64_w, i32_w]
                      rfl
                    refine pure_ (i := 15) (N := some 63) (v := ?_) (a' := ?_) #[true, true, true, true, true, true, true, true, true, true, true, true, true, true, true, true, false, false, false, false] rfl rfl (any_of HT_.out (by kernel_rfl)) (fun _ _ _ h => h) (Or.inl ⟨by rfl, ?_⟩) ?_ ?_
                    rotate_left
                    · intro w'
                      go_simp
                      with_reducible rfl
                    rotate_left
                    · simp only [Act.put, List.setIfInBounds_toArray, List.set_cons_zero, List.set_cons_succ, i64_w, i32_w]
                      rfl
                    refine pure_ (i := 16) (N := some 64) (v := ?_) (a' := ?_) #[true, true, true, true, true, true, true, true, true, true, true, true, true, true, true, true, true, false, false, false] rfl rfl (any_of HT_.out (by kernel_rfl)) (fun _ _ _ h => h) (Or.inl ⟨by rfl, ?_⟩) ?_ ?_
                    rotate_left
                    · intro w'
                      go_simp
                      with_reducible rfl
                    rotate_left
                    · simp only [Act.put, List.setIfInBounds_toArray, List.set_cons_zero, List.set_cons_succ, i64_w, i32_w]
                      rfl
                    refine one_ (i := 17) (N := some 13) #[true, true, true, true, true, true, true, true, true, true, true, true, true, true, true, true, true, true, false, false] rfl rfl (one_of HT_.out (by kernel_rfl)) (by decide) (fun K hK => ?_)
                    refine box_step ?hg (N := 13) ?hd (cs := #[.int .i64 0, .int .i64 0, .int .i64 0, .int .i64 0]) (t := 29) ?hr ?_; (case hd => rfl); (case hg => rfl); (case hr => first | (go_simp; done) | (go_simp; rfl))
                    intro gb291 hg w31 hbox hb
                    have n0_ := Aside0.mk (Kd.R_below (rk HO_10.out) hb)
                    have n1_ := Aside0.mk (Kd.V_below (Kd.V_elderB (vk HO_269000.out) gb291 (Nat.le_of_eq hg.symm)) hb)
                    have n2_ := Aside0.mk (Kd.V_below (Kd.V_elderB (vk HO_269001.out) gb291 (Nat.le_of_eq hg.symm)) hb)
                    have n3_ := Aside0.mk (blk_below (bk BK256.out) hb)
                    have n4_ := Aside0.mk (blk_below (bk BK268.out) hb)
                    have n5_ := Aside0.mk (below_step (by repeat (first | (with_reducible first | exact HB.out | apply bA | apply bN | apply bD | refine bS ?_ ‹_›) | exact HB.out)) hb)
                    have n6_ := Aside0.mk (hbox)
                    have n7_ := Aside0.mk ((by rw [hg]; exact (below_size (by repeat (first | (with_reducible first | exact HB.out | apply bA | apply bN | apply bD | refine bS ?_ ‹_›) | exact HB.out))) : w.heap.size ≤ gb291))
                    have n8_ := Aside0.mk ((by rw [hg]; exact (below_size (by repeat (first | (with_reducible first | exact HB.out | apply bA | apply bN | apply bD | refine bS ?_ ‹_›) | exact HB.out))) : w.heap.size ≤ gb291))
                    have n9_ := Aside0.mk ((by rw [hg]; exact Nat.ne_of_lt (blk_lt (bk BK256.out)) : gb256 ≠ gb291))
                    have n10_ := Aside0.mk ((by rw [hg]; exact Nat.ne_of_gt (blk_lt (bk BK256.out)) : gb291 ≠ gb256))
                    have n11_ := Aside0.mk ((by rw [hg]; exact Nat.ne_of_lt (blk_lt (bk BK268.out)) : gb268 ≠ gb291))
                    have n12_ := Aside0.mk ((by rw [hg]; exact Nat.ne_of_gt (blk_lt (bk BK268.out)) : gb291 ≠ gb268))
                    clear HO_10
                    clear HO_269000
                    clear HO_269001
                    clear BK256
                    clear BK268
                    clear HB
                    have HO_10 := n0_
                    have HO_269000 := n1_
                    have HO_269001 := n2_
                    have BK256 := n3_
                    have BK268 := n4_
                    have HB := n5_
                    have BK291 := n6_
                    have GW291 := n7_
                    have GE291 := n8_
                    have NB256_291 := n9_
                    have NB291_256 := n10_
                    have NB268_291 := n11_
                    have NB291_268 := n12_
                    clear n0_ n1_ n2_ n3_ n4_ n5_ n6_ n7_ n8_ n9_ n10_ n11_ n12_
                    clear hb hbox hg
                    refine hK.out _ _ ⟨(blk_cell BK268.out 0).trans rfl, (blk_cell BK268.out 1).trans rfl, (blk_cell BK256.out 0).trans rfl, (blk_cell BK256.out 1).trans rfl, ((HB.out.cell (World.block_lt_of_cell? w _ hw284_0)).trans hw284_0), ((HB.out.cell (World.block_lt_of_cell? w _ hw284_1)).trans hw284_1), ((HB.out.cell (World.block_lt_of_cell? w _ hw284_2)).trans hw284_2), ((HB.out.cell (World.block_lt_of_cell? w _ hw284_3)).trans hw284_3), ((HB.out.cell (World.block_lt_of_cell? w _ hw285_0)).trans hw285_0), ((HB.out.cell (World.block_lt_of_cell? w _ hw285_1)).trans hw285_1), ((HB.out.cell (World.block_lt_of_cell? w _ hw285_2)).trans hw285_2), ((HB.out.cell (World.block_lt_of_cell? w _ hw285_3)).trans hw285_3)⟩ (fun hHeld => ?_)
                    clear hK K
                    refine norm_ (a' := ?_) ?_ ?_
                    rotate_left
                    · show Act.put _ (some 13) _ = _
                      simp only [Act.put, List.setIfInBounds_toArray, List.set_cons_zero, List.set_cons_succ, i64_w, i32_w]
                      rfl
                    exact norm_ (by simp only [putAll, Act.put, List.setIfInBounds_toArray, List.set_cons_zero, List.set_cons_succ]) (hCont (gb291) _ ⟨hHeld, (rk HO_10.out), (by (with_reducible repeat (first | apply Kd.V_alloc | apply Kd.V_drewN | apply Kd.V_drew)); exact Kd.V_mono HO_269000.out (fun _ hk => ⟨hk.1.1, ⟨hk.1.2.1, ⟨hk.1.2.2, hk.2⟩⟩⟩)), (by (with_reducible repeat (first | apply Kd.V_alloc | apply Kd.V_drewN | apply Kd.V_drew)); exact Kd.V_mono HO_269001.out (fun _ hk => ⟨hk.1.1, ⟨hk.1.2.1, ⟨hk.1.2.2, hk.2⟩⟩⟩)), (bk BK256.out), (bk BK268.out), (bk BK291.out), GW291.out, GE291.out, NB256_291.out, NB291_256.out, NB268_291.out, NB291_268.out, (by repeat (first | (with_reducible first | exact HB.out | apply bA | apply bN | apply bD | refine bS ?_ ‹_›) | exact HB.out))⟩)
                  · skip
                    refine box_step ?hg (N := 13) ?hd (cs := #[.int .i64 0, .int .i64 0, .int .i64 0, .int .i64 0]) (t := 29) ?hr ?_; (case hd => rfl); (case hg => rfl); (case hr => first | (go_simp; done) | (go_simp; rfl))
                    intro gb291 hg w30 hbox hb
                    have n0_ := Aside0.mk (Kd.R_below (rk HO_10.out) hb)
                    have n1_ := Aside0.mk (Kd.V_below (Kd.V_elderB (vk HO_269000.out) gb291 (Nat.le_of_eq hg.symm)) hb)
                    have n2_ := Aside0.mk (Kd.V_below (Kd.V_elderB (vk HO_269001.out) gb291 (Nat.le_of_eq hg.symm)) hb)
                    have n3_ := Aside0.mk (blk_below (bk BK256.out) hb)
                    have n4_ := Aside0.mk (blk_below (bk BK268.out) hb)
                    have n5_ := Aside0.mk (below_step (by repeat (first | (with_reducible first | exact HB.out | apply bA | apply bN | apply bD | refine bS ?_ ‹_›) | exact HB.out)) hb)
                    have n6_ := Aside0.mk (hbox)
                    have n7_ := Aside0.mk ((by rw [hg]; exact (below_size (by repeat (first | (with_reducible first | exact HB.out | apply bA | apply bN | apply bD | refine bS ?_ ‹_›) | exact HB.out))) : w.heap.size ≤ gb291))
                    have n8_ := Aside0.mk ((by rw [hg]; exact (below_size (by repeat (first | (with_reducible first | exact HB.out | apply bA | apply bN | apply bD | refine bS ?_ ‹_›) | exact HB.out))) : w.heap.size ≤ gb291))
                    have n9_ := Aside0.mk ((by rw [hg]; exact Nat.ne_of_lt (blk_lt (bk BK256.out)) : gb256 ≠ gb291))
                    have n10_ := Aside0.mk ((by rw [hg]; exact Nat.ne_of_gt (blk_lt (bk BK256.out)) : gb291 ≠ gb256))
                    have n11_ := Aside0.mk ((by rw [hg]; exact Nat.ne_of_lt (blk_lt (bk BK268.out)) : gb268 ≠ gb291))
                    have n12_ := Aside0.mk ((by rw [hg]; exact Nat.ne_of_gt (blk_lt (bk BK268.out)) : gb291 ≠ gb268))
                    clear HO_10
                    clear HO_269000
                    clear HO_269001
                    clear BK256
                    clear BK268
                    clear HB
                    have HO_10 := n0_
                    have HO_269000 := n1_
                    have HO_269001 := n2_
                    have BK256 := n3_
                    have BK268 := n4_
                    have HB := n5_
                    have BK291 := n6_
                    have GW291 := n7_
                    have GE291 := n8_
                    have NB256_291 := n9_
                    have NB291_256 := n10_
                    have NB268_291 := n11_
                    have NB291_268 := n12_
                    clear n0_ n1_ n2_ n3_ n4_ n5_ n6_ n7_ n8_ n9_ n10_ n11_ n12_
                    clear hb hbox hg
                    refine hK.out _ _ ⟨(blk_cell BK268.out 0).trans rfl, (blk_cell BK268.out 1).trans rfl, (blk_cell BK256.out 0).trans rfl, (blk_cell BK256.out 1).trans rfl, ((HB.out.cell (World.block_lt_of_cell? w _ hw284_0)).trans hw284_0), ((HB.out.cell (World.block_lt_of_cell? w _ hw284_1)).trans hw284_1), ((HB.out.cell (World.block_lt_of_cell? w _ hw284_2)).trans hw284_2), ((HB.out.cell (World.block_lt_of_cell? w _ hw284_3)).trans hw284_3), ((HB.out.cell (World.block_lt_of_cell? w _ hw285_0)).trans hw285_0), ((HB.out.cell (World.block_lt_of_cell? w _ hw285_1)).trans hw285_1), ((HB.out.cell (World.block_lt_of_cell? w _ hw285_2)).trans hw285_2), ((HB.out.cell (World.block_lt_of_cell? w _ hw285_3)).trans hw285_3)⟩ (fun hHeld => ?_)
                    clear hK K
                    refine norm_ (a' := ?_) ?_ ?_
                    rotate_left
                    · show Act.put _ (some 13) _ = _
                      simp only [Act.put, List.setIfInBounds_toArray, List.set_cons_zero, List.set_cons_succ, i64_w, i32_w]
                      rfl
                    refine one_ (i := 13) (N := some 62) #[true, true, true, true, true, true, true, true, true, true, true, true, true, true, false, false, false, true, false, false] rfl rfl (one_of HT_.out (by kernel_rfl)) (by decide) (fun K hK => ?_)
                    refine goes_ Try.func16 (by kernel_rfl) rfl #[.agg #[.slice Ao19 t259.length co19, .slice Ao22 t262.length co22], .int .i64 ((rd_T29 l0_1 x12_2).f0), .int .i64 ((rd_T29 l0_1 x12_2).f1)] (by rfl) rfl rfl (by (try simp only [List.map_toArray, List.map_cons, List.map_nil]); first | done | rfl | (simp only [List.length_drop, List.length_take]; rfl)) ?_
                    with_reducible refine (pool_At.calls _ _ t259 _ _ t262 ((rd_T29 l0_1 x12_2).f0) ((rd_T29 l0_1 x12_2).f1) t286 t287 t288 t289 t290 _ ?side1 ?side2 ?side3 ?side4 A25.out).mono ?_
                    (case side1 => repeat (first | exact (Kd.V_reads' HO_269000.out).2.2 | (with_reducible refine Kd.C_alloc ?_ _) | (with_reducible refine Kd.C_drewN ?_ _) | (with_reducible refine Kd.C_drew ?_)))
                    (case side2 => exact (Kd.V_reads' HO_269000.out).2.1)
                    (case side3 => repeat (first | exact (Kd.V_reads' HO_269001.out).2.2 | (with_reducible refine Kd.C_alloc ?_ _) | (with_reducible refine Kd.C_drewN ?_ _) | (with_reducible refine Kd.C_drew ?_)))
                    (case side4 => exact (Kd.V_reads' HO_269001.out).2.1)
                    rintro e w31 ⟨rfl, hb⟩
                    refine ⟨_, rfl, ?_⟩
                    have n0_ := Aside0.mk (Kd.R_below (rk HO_10.out) hb)
                    have n1_ := Aside0.mk (Kd.V_below (vk HO_269000.out) hb)
                    have n2_ := Aside0.mk (Kd.V_below (vk HO_269001.out) hb)
                    have n3_ := Aside0.mk (blk_below (bk BK256.out) hb)
                    have n4_ := Aside0.mk (blk_below (bk BK268.out) hb)
                    have n5_ := Aside0.mk (blk_below (bk BK291.out) hb)
                    have n6_ := Aside0.mk (below_step (by repeat (first | (with_reducible first | exact HB.out | apply bA | apply bN | apply bD | refine bS ?_ ‹_›) | exact HB.out)) hb)
                    clear HO_10
                    clear HO_269000
                    clear HO_269001
                    clear BK256
                    clear BK268
                    clear BK291
                    clear HB
                    have HO_10 := n0_
                    have HO_269000 := n1_
                    have HO_269001 := n2_
                    have BK256 := n3_
                    have BK268 := n4_
                    have BK291 := n5_
                    have HB := n6_
                    clear n0_ n1_ n2_ n3_ n4_ n5_ n6_
                    (try clear hb)
                    (try clear hb2)
                    (try clear hk)
                    (try clear hi)
                    refine hK.out _ _ ⟨(blk_cell BK268.out 0).trans rfl, (blk_cell BK268.out 1).trans rfl, (blk_cell BK256.out 0).trans rfl, (blk_cell BK256.out 1).trans rfl, ((HB.out.cell (World.block_lt_of_cell? w _ hw284_0)).trans hw284_0), ((HB.out.cell (World.block_lt_of_cell? w _ hw284_1)).trans hw284_1), ((HB.out.cell (World.block_lt_of_cell? w _ hw284_2)).trans hw284_2), ((HB.out.cell (World.block_lt_of_cell? w _ hw284_3)).trans hw284_3), ((HB.out.cell (World.block_lt_of_cell? w _ hw285_0)).trans hw285_0), ((HB.out.cell (World.block_lt_of_cell? w _ hw285_1)).trans hw285_1), ((HB.out.cell (World.block_lt_of_cell? w _ hw285_2)).trans hw285_2), ((HB.out.cell (World.block_lt_of_cell? w _ hw285_3)).trans hw285_3)⟩ (fun hHeld => ?_)
                    clear hK K
                    refine norm_ (a' := ?_) ?_ ?_
                    rotate_left
                    · show Act.put _ (some 62) _ = _
                      simp only [Act.put, List.setIfInBounds_toArray, List.set_cons_zero, List.set_cons_succ, i64_w, i32_w]
                      rfl
                    refine pure_ (i := 14) (N := some 48) (v := ?_) (a' := ?_) #[true, true, true, true, true, true, true, true, true, true, true, true, true, true, true, false, false, true, false, false] rfl rfl (any_of HT_.out (by kernel_rfl)) (fun _ _ _ h => h) (Or.inl ⟨by rfl, ?_⟩) ?_ ?_
                    rotate_left
                    · intro w'
                      go_simp
                      with_reducible rfl
                    rotate_left
                    · simp only [Act.put, List.setIfInBounds_toArray, List.set_cons_zero, List.set_cons_succ, i64_w, i32_w]
                      rfl
                    refine pure_ (i := 15) (N := some 63) (v := ?_) (a' := ?_) #[true, true, true, true, true, true, true, true, true, true, true, true, true, true, true, true, false, true, false, false] rfl rfl (any_of HT_.out (by kernel_rfl)) (fun _ _ _ h => h) (Or.inl ⟨by rfl, ?_⟩) ?_ ?_
                    rotate_left
                    · intro w'
                      go_simp
                      with_reducible rfl
                    rotate_left
                    · simp only [Act.put, List.setIfInBounds_toArray, List.set_cons_zero, List.set_cons_succ, i64_w, i32_w]
                      rfl
                    refine pure_ (i := 16) (N := some 64) (v := ?_) (a' := ?_) #[true, true, true, true, true, true, true, true, true, true, true, true, true, true, true, true, true, true, false, false] rfl rfl (any_of HT_.out (by kernel_rfl)) (fun _ _ _ h => h) (Or.inl ⟨by rfl, ?_⟩) ?_ ?_
                    rotate_left
                    · intro w'
                      go_simp
                      with_reducible rfl
                    rotate_left
                    · simp only [Act.put, List.setIfInBounds_toArray, List.set_cons_zero, List.set_cons_succ, i64_w, i32_w]
                      rfl
                    exact norm_ (by simp only [putAll, Act.put, List.setIfInBounds_toArray, List.set_cons_zero, List.set_cons_succ]) (hCont (gb291) _ ⟨hHeld, (rk HO_10.out), (by (with_reducible repeat (first | apply Kd.V_alloc | apply Kd.V_drewN | apply Kd.V_drew)); exact Kd.V_mono HO_269000.out (fun _ hk => ⟨hk.1.1, ⟨hk.1.2.1, ⟨hk.1.2.2, hk.2⟩⟩⟩)), (by (with_reducible repeat (first | apply Kd.V_alloc | apply Kd.V_drewN | apply Kd.V_drew)); exact Kd.V_mono HO_269001.out (fun _ hk => ⟨hk.1.1, ⟨hk.1.2.1, ⟨hk.1.2.2, hk.2⟩⟩⟩)), (bk BK256.out), (bk BK268.out), (bk BK291.out), GW291.out, GE291.out, NB256_291.out, NB291_256.out, NB268_291.out, NB291_268.out, (by repeat (first | (with_reducible first | exact HB.out | apply bA | apply bN | apply bD | refine bS ?_ ‹_›) | exact HB.out))⟩)
                rintro gb291 w32 ⟨hS_, h0_, h1_, h2_, h3_, h4_, h5_, h6_, h7_, h8_, h9_, h10_, h11_, h12_⟩
                have n0_ : Aside0 (Kd.R (Kd.int .i64) 3 w32 w.heap.size (fun _ => True) v266 t265) := ⟨h0_⟩
                have n1_ : Aside0 (Kd.V (Kd.int .i64) 3 w32 w.heap.size (fun k_ => some k_ ≠ (v266 : Value).ownBlock ∧ k_ ≠ gb256 ∧ k_ ≠ gb268 ∧ k_ ≠ gb291) (.slice Ao19 t259.length co19) t259) := ⟨h1_⟩
                have n2_ : Aside0 (Kd.V k29 29 w32 w.heap.size (fun k_ => some k_ ≠ (v266 : Value).ownBlock ∧ k_ ≠ gb256 ∧ k_ ≠ gb268 ∧ k_ ≠ gb291) (.slice Ao22 t262.length co22) t262) := ⟨h2_⟩
                have n3_ : Aside0 (w32.heap[gb256]? = some (.cells #[.slice A0_0 l0_0.length c0_0, .slice (some ad284) l0_1.length c0_1] 25 (0, 0))) := ⟨h3_⟩
                have n4_ : Aside0 (w32.heap[gb268]? = some (.cells #[.slice Ao19 t259.length co19, .slice Ao22 t262.length co22] 25 (0, 0))) := ⟨h4_⟩
                have n5_ : Aside0 (w32.heap[gb291]? = some (.cells #[.int .i64 0, .int .i64 0, .int .i64 0, .int .i64 0] 29 (0, 0))) := ⟨h5_⟩
                have n6_ : Aside0 (w.heap.size ≤ gb291) := ⟨h6_⟩
                have n7_ : Aside0 (w.heap.size ≤ gb291) := ⟨h7_⟩
                have n8_ : Aside0 (gb256 ≠ gb291) := ⟨h8_⟩
                have n9_ : Aside0 (gb291 ≠ gb256) := ⟨h9_⟩
                have n10_ : Aside0 (gb268 ≠ gb291) := ⟨h10_⟩
                have n11_ : Aside0 (gb291 ≠ gb268) := ⟨h11_⟩
                have n12_ : Aside0 (Below w.heap.size w w32) := ⟨h12_⟩
                clear HO_10
                clear HO_269000
                clear HO_269001
                clear BK256
                clear BK268
                clear HB
                clear h0_ h1_ h2_ h3_ h4_ h5_ h6_ h7_ h8_ h9_ h10_ h11_ h12_
                have HO_10 := n0_
                have HO_269000 := n1_
                have HO_269001 := n2_
                have BK256 := n3_
                have BK268 := n4_
                have BK291 := n5_
                have GW291 := n6_
                have GE291 := n7_
                have NB256_291 := n8_
                have NB291_256 := n9_
                have NB268_291 := n10_
                have NB291_268 := n11_
                have HB := n12_
                clear n0_ n1_ n2_ n3_ n4_ n5_ n6_ n7_ n8_ n9_ n10_ n11_ n12_
                have hHeld : w32.cell? ⟨gb268, 0, none⟩ = some (.slice Ao19 t259.length co19) ∧ w32.cell? ⟨gb268, 1, none⟩ = some (.slice Ao22 t262.length co22) ∧ w32.cell? ⟨gb256, 0, none⟩ = some (.slice A0_0 l0_0.length c0_0) ∧ w32.cell? ⟨gb256, 1, none⟩ = some (.slice (some ad284) l0_1.length c0_1) ∧ w32.cell? (ad284.add ((x12_2).toNat * 4)) = some (.int .i64 ((rd_T29 l0_1 x12_2).f0)) ∧ w32.cell? ⟨(ad284.add ((x12_2).toNat * 4)).block, (ad284.add ((x12_2).toNat * 4)).off + 1, none⟩ = some (.int .i64 ((rd_T29 l0_1 x12_2).f1)) ∧ w32.cell? ⟨(ad284.add ((x12_2).toNat * 4)).block, (ad284.add ((x12_2).toNat * 4)).off + 2, none⟩ = some (.int .i64 ((rd_T29 l0_1 x12_2).f2)) ∧ w32.cell? ⟨(ad284.add ((x12_2).toNat * 4)).block, (ad284.add ((x12_2).toNat * 4)).off + 3, none⟩ = some (.int .i64 ((rd_T29 l0_1 x12_2).f3)) ∧ w32.cell? (ad284.add ((x12_2).toNat * 4)) = some (.int .i64 ((rd_T29 l0_1 x12_2).f0)) ∧ w32.cell? ⟨(ad284.add ((x12_2).toNat * 4)).block, (ad284.add ((x12_2).toNat * 4)).off + 1, none⟩ = some (.int .i64 ((rd_T29 l0_1 x12_2).f1)) ∧ w32.cell? ⟨(ad284.add ((x12_2).toNat * 4)).block, (ad284.add ((x12_2).toNat * 4)).off + 2, none⟩ = some (.int .i64 ((rd_T29 l0_1 x12_2).f2)) ∧ w32.cell? ⟨(ad284.add ((x12_2).toNat * 4)).block, (ad284.add ((x12_2).toNat * 4)).off + 3, none⟩ = some (.int .i64 ((rd_T29 l0_1 x12_2).f3)) := hS_
                refine norm_ (a' := ?_) ?_ ?_
                rotate_left
                · simp only [putAll, Act.put, List.setIfInBounds_toArray, List.set_cons_zero, List.set_cons_succ]
                  rfl
                refine one_ (i := 18) (N := none) #[true, true, true, true, true, true, true, true, true, true, true, true, true, true, true, true, true, true, true, false] rfl rfl (one_of HT_.out (by kernel_rfl)) (by decide) (fun K hK => ?_)
                have hs33 : w32.cell? ⟨gb291, 0, none⟩ = some (.int .i64 0) := (blk_cell BK291.out 0).trans rfl
                have hfs33 := blk_frozen BK291.out 0
                have hns33_0 := NB256_291.out
                have hns33_1 := NB268_291.out
                have hms33_0 := NB291_256.out
                have hms33_1 := NB291_268.out
                have hs34 : w32.cell? ⟨gb291, 1, none⟩ = some (.int .i64 0) := (blk_cell BK291.out 1).trans rfl
                have hfs34 := blk_frozen BK291.out 1
                have hns34_0 := NB256_291.out
                have hns34_1 := NB268_291.out
                have hms34_0 := NB291_256.out
                have hms34_1 := NB291_268.out
                have hs35 : w32.cell? ⟨gb291, 2, none⟩ = some (.int .i64 0) := (blk_cell BK291.out 2).trans rfl
                have hfs35 := blk_frozen BK291.out 2
                have hns35_0 := NB256_291.out
                have hns35_1 := NB268_291.out
                have hms35_0 := NB291_256.out
                have hms35_1 := NB291_268.out
                have hs36 : w32.cell? ⟨gb291, 3, none⟩ = some (.int .i64 0) := (blk_cell BK291.out 3).trans rfl
                have hfs36 := blk_frozen BK291.out 3
                have hns36_0 := NB256_291.out
                have hns36_1 := NB268_291.out
                have hms36_0 := NB291_256.out
                have hms36_1 := NB291_268.out
                refine skip_ (w1 := ?_) (by rfl) rfl ?_ ?_
                rotate_left
                · go_simp
                  rfl
                refine hK.out _ _ ⟨((cell_far (p := ⟨gb291, _, none⟩) NB268_291.out _).trans (((cell_far (p := ⟨gb291, _, none⟩) NB268_291.out _).trans (((cell_far (p := ⟨gb291, _, none⟩) NB268_291.out _).trans (((cell_far (p := ⟨gb291, _, none⟩) NB268_291.out _).trans (hHeld.1)))))))), ((cell_far (p := ⟨gb291, _, none⟩) NB268_291.out _).trans (((cell_far (p := ⟨gb291, _, none⟩) NB268_291.out _).trans (((cell_far (p := ⟨gb291, _, none⟩) NB268_291.out _).trans (((cell_far (p := ⟨gb291, _, none⟩) NB268_291.out _).trans (hHeld.2.1)))))))), ((cell_far (p := ⟨gb291, _, none⟩) NB256_291.out _).trans (((cell_far (p := ⟨gb291, _, none⟩) NB256_291.out _).trans (((cell_far (p := ⟨gb291, _, none⟩) NB256_291.out _).trans (((cell_far (p := ⟨gb291, _, none⟩) NB256_291.out _).trans (hHeld.2.2.1)))))))), ((cell_far (p := ⟨gb291, _, none⟩) NB256_291.out _).trans (((cell_far (p := ⟨gb291, _, none⟩) NB256_291.out _).trans (((cell_far (p := ⟨gb291, _, none⟩) NB256_291.out _).trans (((cell_far (p := ⟨gb291, _, none⟩) NB256_291.out _).trans (hHeld.2.2.2.1)))))))), ((cell_far (p := ⟨gb291, _, none⟩) (by first | exact Nat.ne_of_lt (Nat.lt_of_lt_of_le (by have := World.block_lt_of_cell? _ _ hw284_0; first | rwa [add_block] at this | exact this) GW291.out) | (rw [add_block]; exact Nat.ne_of_lt (Nat.lt_of_lt_of_le (by have := World.block_lt_of_cell? _ _ hw284_0; first | rwa [add_block] at this | exact this) GW291.out)) | (show (Addr.add _ _).block ≠ _; rw [add_block]; exact Nat.ne_of_lt (Nat.lt_of_lt_of_le (by have := World.block_lt_of_cell? _ _ hw284_0; first | rwa [add_block] at this | exact this) GW291.out)) | (dsimp only; exact Nat.ne_of_lt (Nat.lt_of_lt_of_le (by have := World.block_lt_of_cell? _ _ hw284_0; first | rwa [add_block] at this | exact this) GW291.out))) _).trans (((cell_far (p := ⟨gb291, _, none⟩) (by first | exact Nat.ne_of_lt (Nat.lt_of_lt_of_le (by have := World.block_lt_of_cell? _ _ hw284_0; first | rwa [add_block] at this | exact this) GW291.out) | (rw [add_block]; exact Nat.ne_of_lt (Nat.lt_of_lt_of_le (by have := World.block_lt_of_cell? _ _ hw284_0; first | rwa [add_block] at this | exact this) GW291.out)) | (show (Addr.add _ _).block ≠ _; rw [add_block]; exact Nat.ne_of_lt (Nat.lt_of_lt_of_le (by have := World.block_lt_of_cell? _ _ hw284_0; first | rwa [add_block] at this | exact this) GW291.out)) | (dsimp only; exact Nat.ne_of_lt (Nat.lt_of_lt_of_le (by have := World.block_lt_of_cell? _ _ hw284_0; first | rwa [add_block] at this | exact this) GW291.out))) _).trans (((cell_far (p := ⟨gb291, _, none⟩) (by first | exact Nat.ne_of_lt (Nat.lt_of_lt_of_le (by have := World.block_lt_of_cell? _ _ hw284_0; first | rwa [add_block] at this | exact this) GW291.out) | (rw [add_block]; exact Nat.ne_of_lt (Nat.lt_of_lt_of_le (by have := World.block_lt_of_cell? _ _ hw284_0; first | rwa [add_block] at this | exact this) GW291.out)) | (show (Addr.add _ _).block ≠ _; rw [add_block]; exact Nat.ne_of_lt (Nat.lt_of_lt_of_le (by have := World.block_lt_of_cell? _ _ hw284_0; first | rwa [add_block] at this | exact this) GW291.out)) | (dsimp only; exact Nat.ne_of_lt (Nat.lt_of_lt_of_le (by have := World.block_lt_of_cell? _ _ hw284_0; first | rwa [add_block] at this | exact this) GW291.out))) _).trans (((cell_far (p := ⟨gb291, _, none⟩) (by first | exact Nat.ne_of_lt (Nat.lt_of_lt_of_le (by have := World.block_lt_of_cell? _ _ hw284_0; first | rwa [add_block] at this | exact this) GW291.out) | (rw [add_block]; exact Nat.ne_of_lt (Nat.lt_of_lt_of_le (by have := World.block_lt_of_cell? _ _ hw284_0; first | rwa [add_block] at this | exact this) GW291.out)) | (show (Addr.add _ _).block ≠ _; rw [add_block]; exact Nat.ne_of_lt (Nat.lt_of_lt_of_le (by have := World.block_lt_of_cell? _ _ hw284_0; first | rwa [add_block] at this | exact this) GW291.out)) | (dsimp only; exact Nat.ne_of_lt (Nat.lt_of_lt_of_le (by have := World.block_lt_of_cell? _ _ hw284_0; first | rwa [add_block] at this | exact this) GW291.out))) _).trans (hHeld.2.2.2.2.1)))))))), ((cell_far (p := ⟨gb291, _, none⟩) (by first | exact Nat.ne_of_lt (Nat.lt_of_lt_of_le (by have := World.block_lt_of_cell? _ _ hw284_1; first | rwa [add_block] at this | exact this) GW291.out) | (rw [add_block]; exact Nat.ne_of_lt (Nat.lt_of_lt_of_le (by have := World.block_lt_of_cell? _ _ hw284_1; first | rwa [add_block] at this | exact this) GW291.out)) | (show (Addr.add _ _).block ≠ _; rw [add_block]; exact Nat.ne_of_lt (Nat.lt_of_lt_of_le (by have := World.block_lt_of_cell? _ _ hw284_1; first | rwa [add_block] at this | exact this) GW291.out)) | (dsimp only; exact Nat.ne_of_lt (Nat.lt_of_lt_of_le (by have := World.block_lt_of_cell? _ _ hw284_1; first | rwa [add_block] at this | exact this) GW291.out))) _).trans (((cell_far (p := ⟨gb291, _, none⟩) (by first | exact Nat.ne_of_lt (Nat.lt_of_lt_of_le (by have := World.block_lt_of_cell? _ _ hw284_1; first | rwa [add_block] at this | exact this) GW291.out) | (rw [add_block]; exact Nat.ne_of_lt (Nat.lt_of_lt_of_le (by have := World.block_lt_of_cell? _ _ hw284_1; first | rwa [add_block] at this | exact this) GW291.out)) | (show (Addr.add _ _).block ≠ _; rw [add_block]; exact Nat.ne_of_lt (Nat.lt_of_lt_of_le (by have := World.block_lt_of_cell? _ _ hw284_1; first | rwa [add_block] at this | exact this) GW291.out)) | (dsimp only; exact Nat.ne_of_lt (Nat.lt_of_lt_of_le (by have := World.block_lt_of_cell? _ _ hw284_1; first | rwa [add_block] at this | exact this) GW291.out))) _).trans (((cell_far (p := ⟨gb291, _, none⟩) (by first | exact Nat.ne_of_lt (Nat.lt_of_lt_of_le (by have := World.block_lt_of_cell? _ _ hw284_1; first | rwa [add_block] at this | exact this) GW291.out) | (rw [add_block]; exact Nat.ne_of_lt (Nat.lt_of_lt_of_le (by have := World.block_lt_of_cell? _ _ hw284_1; first | rwa [add_block] at this | exact this) GW291.out)) | (show (Addr.add _ _).block ≠ _; rw [add_block]; exact Nat.ne_of_lt (Nat.lt_of_lt_of_le (by have := World.block_lt_of_cell? _ _ hw284_1; first | rwa [add_block] at this | exact this) GW291.out)) | (dsimp only; exact Nat.ne_of_lt (Nat.lt_of_lt_of_le (by have := World.block_lt_of_cell? _ _ hw284_1; first | rwa [add_block] at this | exact this) GW291.out))) _).trans (((cell_far (p := ⟨gb291, _, none⟩) (by first | exact Nat.ne_of_lt (Nat.lt_of_lt_of_le (by have := World.block_lt_of_cell? _ _ hw284_1; first | rwa [add_block] at this | exact this) GW291.out) | (rw [add_block]; exact Nat.ne_of_lt (Nat.lt_of_lt_of_le (by have := World.block_lt_of_cell? _ _ hw284_1; first | rwa [add_block] at this | exact this) GW291.out)) | (show (Addr.add _ _).block ≠ _; rw [add_block]; exact Nat.ne_of_lt (Nat.lt_of_lt_of_le (by have := World.block_lt_of_cell? _ _ hw284_1; first | rwa [add_block] at this | exact this) GW291.out)) | (dsimp only; exact Nat.ne_of_lt (Nat.lt_of_lt_of_le (by have := World.block_lt_of_cell? _ _ hw284_1; first | rwa [add_block] at this | exact this) GW291.out))) _).trans (hHeld.2.2.2.2.2.1)))))))), ((cell_far (p := ⟨gb291, _, none⟩) (by first | exact Nat.ne_of_lt (Nat.lt_of_lt_of_le (by have := World.block_lt_of_cell? _ _ hw284_2; first | rwa [add_block] at this | exact this) GW291.out) | (rw [add_block]; exact Nat.ne_of_lt (Nat.lt_of_lt_of_le (by have := World.block_lt_of_cell? _ _ hw284_2; first | rwa [add_block] at this | exact this) GW291.out)) | (show (Addr.add _ _).block ≠ _; rw [add_block]; exact Nat.ne_of_lt (Nat.lt_of_lt_of_le (by have := World.block_lt_of_cell? _ _ hw284_2; first | rwa [add_block] at this | exact this) GW291.out)) | (dsimp only; exact Nat.ne_of_lt (Nat.lt_of_lt_of_le (by have := World.block_lt_of_cell? _ _ hw284_2; first | rwa [add_block] at this | exact this) GW291.out))) _).trans (((cell_far (p := ⟨gb291, _, none⟩) (by first | exact Nat.ne_of_lt (Nat.lt_of_lt_of_le (by have := World.block_lt_of_cell? _ _ hw284_2; first | rwa [add_block] at this | exact this) GW291.out) | (rw [add_block]; exact Nat.ne_of_lt (Nat.lt_of_lt_of_le (by have := World.block_lt_of_cell? _ _ hw284_2; first | rwa [add_block] at this | exact this) GW291.out)) | (show (Addr.add _ _).block ≠ _; rw [add_block]; exact Nat.ne_of_lt (Nat.lt_of_lt_of_le (by have := World.block_lt_of_cell? _ _ hw284_2; first | rwa [add_block] at this | exact this) GW291.out)) | (dsimp only; exact Nat.ne_of_lt (Nat.lt_of_lt_of_le (by have := World.block_lt_of_cell? _ _ hw284_2; first | rwa [add_block] at this | exact this) GW291.out))) _).trans (((cell_far (p := ⟨gb291, _, none⟩) (by first | exact Nat.ne_of_lt (Nat.lt_of_lt_of_le (by have := World.block_lt_of_cell? _ _ hw284_2; first | rwa [add_block] at this | exact this) GW291.out) | (rw [add_block]; exact Nat.ne_of_lt (Nat.lt_of_lt_of_le (by have := World.block_lt_of_cell? _ _ hw284_2; first | rwa [add_block] at this | exact this) GW291.out)) | (show (Addr.add _ _).block ≠ _; rw [add_block]; exact Nat.ne_of_lt (Nat.lt_of_lt_of_le (by have := World.block_lt_of_cell? _ _ hw284_2; first | rwa [add_block] at this | exact this) GW291.out)) | (dsimp only; exact Nat.ne_of_lt (Nat.lt_of_lt_of_le (by have := World.block_lt_of_cell? _ _ hw284_2; first | rwa [add_block] at this | exact this) GW291.out))) _).trans (((cell_far (p := ⟨gb291, _, none⟩) (by first | exact Nat.ne_of_lt (Nat.lt_of_lt_of_le (by have := World.block_lt_of_cell? _ _ hw284_2; first | rwa [add_block] at this | exact this) GW291.out) | (rw [add_block]; exact Nat.ne_of_lt (Nat.lt_of_lt_of_le (by have := World.block_lt_of_cell? _ _ hw284_2; first | rwa [add_block] at this | exact this) GW291.out)) | (show (Addr.add _ _).block ≠ _; rw [add_block]; exact Nat.ne_of_lt (Nat.lt_of_lt_of_le (by have := World.block_lt_of_cell? _ _ hw284_2; first | rwa [add_block] at this | exact this) GW291.out)) | (dsimp only; exact Nat.ne_of_lt (Nat.lt_of_lt_of_le (by have := World.block_lt_of_cell? _ _ hw284_2; first | rwa [add_block] at this | exact this) GW291.out))) _).trans (hHeld.2.2.2.2.2.2.1)))))))), ((cell_far (p := ⟨gb291, _, none⟩) (by first | exact Nat.ne_of_lt (Nat.lt_of_lt_of_le (by have := World.block_lt_of_cell? _ _ hw284_3; first | rwa [add_block] at this | exact this) GW291.out) | (rw [add_block]; exact Nat.ne_of_lt (Nat.lt_of_lt_of_le (by have := World.block_lt_of_cell? _ _ hw284_3; first | rwa [add_block] at this | exact this) GW291.out)) | (show (Addr.add _ _).block ≠ _; rw [add_block]; exact Nat.ne_of_lt (Nat.lt_of_lt_of_le (by have := World.block_lt_of_cell? _ _ hw284_3; first | rwa [add_block] at this | exact this) GW291.out)) | (dsimp only; exact Nat.ne_of_lt (Nat.lt_of_lt_of_le (by have := World.block_lt_of_cell? _ _ hw284_3; first | rwa [add_block] at this | exact this) GW291.out))) _).trans (((cell_far (p := ⟨gb291, _, none⟩) (by first | exact Nat.ne_of_lt (Nat.lt_of_lt_of_le (by have := World.block_lt_of_cell? _ _ hw284_3; first | rwa [add_block] at this | exact this) GW291.out) | (rw [add_block]; exact Nat.ne_of_lt (Nat.lt_of_lt_of_le (by have := World.block_lt_of_cell? _ _ hw284_3; first | rwa [add_block] at this | exact this) GW291.out)) | (show (Addr.add _ _).block ≠ _; rw [add_block]; exact Nat.ne_of_lt (Nat.lt_of_lt_of_le (by have := World.block_lt_of_cell? _ _ hw284_3; first | rwa [add_block] at this | exact this) GW291.out)) | (dsimp only; exact Nat.ne_of_lt (Nat.lt_of_lt_of_le (by have := World.block_lt_of_cell? _ _ hw284_3; first | rwa [add_block] at this | exact this) GW291.out))) _).trans (((cell_far (p := ⟨gb291, _, none⟩) (by first | exact Nat.ne_of_lt (Nat.lt_of_lt_of_le (by have := World.block_lt_of_cell? _ _ hw284_3; first | rwa [add_block] at this | exact this) GW291.out) | (rw [add_block]; exact Nat.ne_of_lt (Nat.lt_of_lt_of_le (by have := World.block_lt_of_cell? _ _ hw284_3; first | rwa [add_block] at this | exact this) GW291.out)) | (show (Addr.add _ _).block ≠ _; rw [add_block]; exact Nat.ne_of_lt (Nat.lt_of_lt_of_le (by have := World.block_lt_of_cell? _ _ hw284_3; first | rwa [add_block] at this | exact this) GW291.out)) | (dsimp only; exact Nat.ne_of_lt (Nat.lt_of_lt_of_le (by have := World.block_lt_of_cell? _ _ hw284_3; first | rwa [add_block] at this | exact this) GW291.out))) _).trans (((cell_far (p := ⟨gb291, _, none⟩) (by first | exact Nat.ne_of_lt (Nat.lt_of_lt_of_le (by have := World.block_lt_of_cell? _ _ hw284_3; first | rwa [add_block] at this | exact this) GW291.out) | (rw [add_block]; exact Nat.ne_of_lt (Nat.lt_of_lt_of_le (by have := World.block_lt_of_cell? _ _ hw284_3; first | rwa [add_block] at this | exact this) GW291.out)) | (show (Addr.add _ _).block ≠ _; rw [add_block]; exact Nat.ne_of_lt (Nat.lt_of_lt_of_le (by have := World.block_lt_of_cell? _ _ hw284_3; first | rwa [add_block] at this | exact this) GW291.out)) | (dsimp only; exact Nat.ne_of_lt (Nat.lt_of_lt_of_le (by have := World.block_lt_of_cell? _ _ hw284_3; first | rwa [add_block] at this | exact this) GW291.out))) _).trans (hHeld.2.2.2.2.2.2.2.1)))))))), ((cell_far (p := ⟨gb291, _, none⟩) (by first | exact Nat.ne_of_lt (Nat.lt_of_lt_of_le (by have := World.block_lt_of_cell? _ _ hw285_0; first | rwa [add_block] at this | exact this) GW291.out) | (rw [add_block]; exact Nat.ne_of_lt (Nat.lt_of_lt_of_le (by have := World.block_lt_of_cell? _ _ hw285_0; first | rwa [add_block] at this | exact this) GW291.out)) | (show (Addr.add _ _).block ≠ _; rw [add_block]; exact Nat.ne_of_lt (Nat.lt_of_lt_of_le (by have := World.block_lt_of_cell? _ _ hw285_0; first | rwa [add_block] at this | exact this) GW291.out)) | (dsimp only; exact Nat.ne_of_lt (Nat.lt_of_lt_of_le (by have := World.block_lt_of_cell? _ _ hw285_0; first | rwa [add_block] at this | exact this) GW291.out))) _).trans (((cell_far (p := ⟨gb291, _, none⟩) (by first | exact Nat.ne_of_lt (Nat.lt_of_lt_of_le (by have := World.block_lt_of_cell? _ _ hw285_0; first | rwa [add_block] at this | exact this) GW291.out) | (rw [add_block]; exact Nat.ne_of_lt (Nat.lt_of_lt_of_le (by have := World.block_lt_of_cell? _ _ hw285_0; first | rwa [add_block] at this | exact this) GW291.out)) | (show (Addr.add _ _).block ≠ _; rw [add_block]; exact Nat.ne_of_lt (Nat.lt_of_lt_of_le (by have := World.block_lt_of_cell? _ _ hw285_0; first | rwa [add_block] at this | exact this) GW291.out)) | (dsimp only; exact Nat.ne_of_lt (Nat.lt_of_lt_of_le (by have := World.block_lt_of_cell? _ _ hw285_0; first | rwa [add_block] at this | exact this) GW291.out))) _).trans (((cell_far (p := ⟨gb291, _, none⟩) (by first | exact Nat.ne_of_lt (Nat.lt_of_lt_of_le (by have := World.block_lt_of_cell? _ _ hw285_0; first | rwa [add_block] at this | exact this) GW291.out) | (rw [add_block]; exact Nat.ne_of_lt (Nat.lt_of_lt_of_le (by have := World.block_lt_of_cell? _ _ hw285_0; first | rwa [add_block] at this | exact this) GW291.out)) | (show (Addr.add _ _).block ≠ _; rw [add_block]; exact Nat.ne_of_lt (Nat.lt_of_lt_of_le (by have := World.block_lt_of_cell? _ _ hw285_0; first | rwa [add_block] at this | exact this) GW291.out)) | (dsimp only; exact Nat.ne_of_lt (Nat.lt_of_lt_of_le (by have := World.block_lt_of_cell? _ _ hw285_0; first | rwa [add_block] at this | exact this) GW291.out))) _).trans (((cell_far (p := ⟨gb291, _, none⟩) (by first | exact Nat.ne_of_lt (Nat.lt_of_lt_of_le (by have := World.block_lt_of_cell? _ _ hw285_0; first | rwa [add_block] at this | exact this) GW291.out) | (rw [add_block]; exact Nat.ne_of_lt (Nat.lt_of_lt_of_le (by have := World.block_lt_of_cell? _ _ hw285_0; first | rwa [add_block] at this | exact this) GW291.out)) | (show (Addr.add _ _).block ≠ _; rw [add_block]; exact Nat.ne_of_lt (Nat.lt_of_lt_of_le (by have := World.block_lt_of_cell? _ _ hw285_0; first | rwa [add_block] at this | exact this) GW291.out)) | (dsimp only; exact Nat.ne_of_lt (Nat.lt_of_lt_of_le (by have := World.block_lt_of_cell? _ _ hw285_0; first | rwa [add_block] at this | exact this) GW291.out))) _).trans (hHeld.2.2.2.2.2.2.2.2.1)))))))), ((cell_far (p := ⟨gb291, _, none⟩) (by first | exact Nat.ne_of_lt (Nat.lt_of_lt_of_le (by have := World.block_lt_of_cell? _ _ hw285_1; first | rwa [add_block] at this | exact this) GW291.out) | (rw [add_block]; exact Nat.ne_of_lt (Nat.lt_of_lt_of_le (by have := World.block_lt_of_cell? _ _ hw285_1; first | rwa [add_block] at this | exact this) GW291.out)) | (show (Addr.add _ _).block ≠ _; rw [add_block]; exact Nat.ne_of_lt (Nat.lt_of_lt_of_le (by have := World.block_lt_of_cell? _ _ hw285_1; first | rwa [add_block] at this | exact this) GW291.out)) | (dsimp only; exact Nat.ne_of_lt (Nat.lt_of_lt_of_le (by have := World.block_lt_of_cell? _ _ hw285_1; first | rwa [add_block] at this | exact this) GW291.out))) _).trans (((cell_far (p := ⟨gb291, _, none⟩) (by first | exact Nat.ne_of_lt (Nat.lt_of_lt_of_le (by have := World.block_lt_of_cell? _ _ hw285_1; first | rwa [add_block] at this | exact this) GW291.out) | (rw [add_block]; exact Nat.ne_of_lt (Nat.lt_of_lt_of_le (by have := World.block_lt_of_cell? _ _ hw285_1; first | rwa [add_block] at this | exact this) GW291.out)) | (show (Addr.add _ _).block ≠ _; rw [add_block]; exact Nat.ne_of_lt (Nat.lt_of_lt_of_le (by have := World.block_lt_of_cell? _ _ hw285_1; first | rwa [add_block] at this | exact this) GW291.out)) | (dsimp only; exact Nat.ne_of_lt (Nat.lt_of_lt_of_le (by have := World.block_lt_of_cell? _ _ hw285_1; first | rwa [add_block] at this | exact this) GW291.out))) _).trans (((cell_far (p := ⟨gb291, _, none⟩) (by first | exact Nat.ne_of_lt (Nat.lt_of_lt_of_le (by have := World.block_lt_of_cell? _ _ hw285_1; first | rwa [add_block] at this | exact this) GW291.out) | (rw [add_block]; exact Nat.ne_of_lt (Nat.lt_of_lt_of_le (by have := World.block_lt_of_cell? _ _ hw285_1; first | rwa [add_block] at this | exact this) GW291.out)) | (show (Addr.add _ _).block ≠ _; rw [add_block]; exact Nat.ne_of_lt (Nat.lt_of_lt_of_le (by have := World.block_lt_of_cell? _ _ hw285_1; first | rwa [add_block] at this | exact this) GW291.out)) | (dsimp only; exact Nat.ne_of_lt (Nat.lt_of_lt_of_le (by have := World.block_lt_of_cell? _ _ hw285_1; first | rwa [add_block] at this | exact this) GW291.out))) _).trans (((cell_far (p := ⟨gb291, _, none⟩) (by first | exact Nat.ne_of_lt (Nat.lt_of_lt_of_le (by have := World.block_lt_of_cell? _ _ hw285_1; first | rwa [add_block] at this | exact this) GW291.out) | (rw [add_block]; exact Nat.ne_of_lt (Nat.lt_of_lt_of_le (by have := World.block_lt_of_cell? _ _ hw285_1; first | rwa [add_block] at this | exact this) GW291.out)) | (show (Addr.add _ _).block ≠ _; rw [add_block]; exact Nat.ne_of_lt (Nat.lt_of_lt_of_le (by have := World.block_lt_of_cell? _ _ hw285_1; first | rwa [add_block] at this | exact this) GW291.out)) | (dsimp only; exact Nat.ne_of_lt (Nat.lt_of_lt_of_le (by have := World.block_lt_of_cell? _ _ hw285_1; first | rwa [add_block] at this | exact this) GW291.out))) _).trans (hHeld.2.2.2.2.2.2.2.2.2.1)))))))), ((cell_far (p := ⟨gb291, _, none⟩) (by first | exact Nat.ne_of_lt (Nat.lt_of_lt_of_le (by have := World.block_lt_of_cell? _ _ hw285_2; first | rwa [add_block] at this | exact this) GW291.out) | (rw [add_block]; exact Nat.ne_of_lt (Nat.lt_of_lt_of_le (by have := World.block_lt_of_cell? _ _ hw285_2; first | rwa [add_block] at this | exact this) GW291.out)) | (show (Addr.add _ _).block ≠ _; rw [add_block]; exact Nat.ne_of_lt (Nat.lt_of_lt_of_le (by have := World.block_lt_of_cell? _ _ hw285_2; first | rwa [add_block] at this | exact this) GW291.out)) | (dsimp only; exact Nat.ne_of_lt (Nat.lt_of_lt_of_le (by have := World.block_lt_of_cell? _ _ hw285_2; first | rwa [add_block] at this | exact this) GW291.out))) _).trans (((cell_far (p := ⟨gb291, _, none⟩) (by first | exact Nat.ne_of_lt (Nat.lt_of_lt_of_le (by have := World.block_lt_of_cell? _ _ hw285_2; first | rwa [add_block] at this | exact this) GW291.out) | (rw [add_block]; exact Nat.ne_of_lt (Nat.lt_of_lt_of_le (by have := World.block_lt_of_cell? _ _ hw285_2; first | rwa [add_block] at this | exact this) GW291.out)) | (show (Addr.add _ _).block ≠ _; rw [add_block]; exact Nat.ne_of_lt (Nat.lt_of_lt_of_le (by have := World.block_lt_of_cell? _ _ hw285_2; first | rwa [add_block] at this | exact this) GW291.out)) | (dsimp only; exact Nat.ne_of_lt (Nat.lt_of_lt_of_le (by have := World.block_lt_of_cell? _ _ hw285_2; first | rwa [add_block] at this | exact this) GW291.out))) _).trans (((cell_far (p := ⟨gb291, _, none⟩) (by first | exact Nat.ne_of_lt (Nat.lt_of_lt_of_le (by have := World.block_lt_of_cell? _ _ hw285_2; first | rwa [add_block] at this | exact this) GW291.out) | (rw [add_block]; exact Nat.ne_of_lt (Nat.lt_of_lt_of_le (by have := World.block_lt_of_cell? _ _ hw285_2; first | rwa [add_block] at this | exact this) GW291.out)) | (show (Addr.add _ _).block ≠ _; rw [add_block]; exact Nat.ne_of_lt (Nat.lt_of_lt_of_le (by have := World.block_lt_of_cell? _ _ hw285_2; first | rwa [add_block] at this | exact this) GW291.out)) | (dsimp only; exact Nat.ne_of_lt (Nat.lt_of_lt_of_le (by have := World.block_lt_of_cell? _ _ hw285_2; first | rwa [add_block] at this | exact this) GW291.out))) _).trans (((cell_far (p := ⟨gb291, _, none⟩) (by first | exact Nat.ne_of_lt (Nat.lt_of_lt_of_le (by have := World.block_lt_of_cell? _ _ hw285_2; first | rwa [add_block] at this | exact this) GW291.out) | (rw [add_block]; exact Nat.ne_of_lt (Nat.lt_of_lt_of_le (by have := World.block_lt_of_cell? _ _ hw285_2; first | rwa [add_block] at this | exact this) GW291.out)) | (show (Addr.add _ _).block ≠ _; rw [add_block]; exact Nat.ne_of_lt (Nat.lt_of_lt_of_le (by have := World.block_lt_of_cell? _ _ hw285_2; first | rwa [add_block] at this | exact this) GW291.out)) | (dsimp only; exact Nat.ne_of_lt (Nat.lt_of_lt_of_le (by have := World.block_lt_of_cell? _ _ hw285_2; first | rwa [add_block] at this | exact this) GW291.out))) _).trans (hHeld.2.2.2.2.2.2.2.2.2.2.1)))))))), ((cell_far (p := ⟨gb291, _, none⟩) (by first | exact Nat.ne_of_lt (Nat.lt_of_lt_of_le (by have := World.block_lt_of_cell? _ _ hw285_3; first | rwa [add_block] at this | exact this) GW291.out) | (rw [add_block]; exact Nat.ne_of_lt (Nat.lt_of_lt_of_le (by have := World.block_lt_of_cell? _ _ hw285_3; first | rwa [add_block] at this | exact this) GW291.out)) | (show (Addr.add _ _).block ≠ _; rw [add_block]; exact Nat.ne_of_lt (Nat.lt_of_lt_of_le (by have := World.block_lt_of_cell? _ _ hw285_3; first | rwa [add_block] at this | exact this) GW291.out)) | (dsimp only; exact Nat.ne_of_lt (Nat.lt_of_lt_of_le (by have := World.block_lt_of_cell? _ _ hw285_3; first | rwa [add_block] at this | exact this) GW291.out))) _).trans (((cell_far (p := ⟨gb291, _, none⟩) (by first | exact Nat.ne_of_lt (Nat.lt_of_lt_of_le (by have := World.block_lt_of_cell? _ _ hw285_3; first | rwa [add_block] at this | exact this) GW291.out) | (rw [add_block]; exact Nat.ne_of_lt (Nat.lt_of_lt_of_le (by have := World.block_lt_of_cell? _ _ hw285_3; first | rwa [add_block] at this | exact this) GW291.out)) | (show (Addr.add _ _).block ≠ _; rw [add_block]; exact Nat.ne_of_lt (Nat.lt_of_lt_of_le (by have := World.block_lt_of_cell? _ _ hw285_3; first | rwa [add_block] at this | exact this) GW291.out)) | (dsimp only; exact Nat.ne_of_lt (Nat.lt_of_lt_of_le (by have := World.block_lt_of_cell? _ _ hw285_3; first | rwa [add_block] at this | exact this) GW291.out))) _).trans (((cell_far (p := ⟨gb291, _, none⟩) (by first | exact Nat.ne_of_lt (Nat.lt_of_lt_of_le (by have := World.block_lt_of_cell? _ _ hw285_3; first | rwa [add_block] at this | exact this) GW291.out) | (rw [add_block]; exact Nat.ne_of_lt (Nat.lt_of_lt_of_le (by have := World.block_lt_of_cell? _ _ hw285_3; first | rwa [add_block] at this | exact this) GW291.out)) | (show (Addr.add _ _).block ≠ _; rw [add_block]; exact Nat.ne_of_lt (Nat.lt_of_lt_of_le (by have := World.block_lt_of_cell? _ _ hw285_3; first | rwa [add_block] at this | exact this) GW291.out)) | (dsimp only; exact Nat.ne_of_lt (Nat.lt_of_lt_of_le (by have := World.block_lt_of_cell? _ _ hw285_3; first | rwa [add_block] at this | exact this) GW291.out))) _).trans (((cell_far (p := ⟨gb291, _, none⟩) (by first | exact Nat.ne_of_lt (Nat.lt_of_lt_of_le (by have := World.block_lt_of_cell? _ _ hw285_3; first | rwa [add_block] at this | exact this) GW291.out) | (rw [add_block]; exact Nat.ne_of_lt (Nat.lt_of_lt_of_le (by have := World.block_lt_of_cell? _ _ hw285_3; first | rwa [add_block] at this | exact this) GW291.out)) | (show (Addr.add _ _).block ≠ _; rw [add_block]; exact Nat.ne_of_lt (Nat.lt_of_lt_of_le (by have := World.block_lt_of_cell? _ _ hw285_3; first | rwa [add_block] at this | exact this) GW291.out)) | (dsimp only; exact Nat.ne_of_lt (Nat.lt_of_lt_of_le (by have := World.block_lt_of_cell? _ _ hw285_3; first | rwa [add_block] at this | exact this) GW291.out))) _).trans (hHeld.2.2.2.2.2.2.2.2.2.2.2))))))))⟩ (fun hHeld => ?_)
                clear hK K
                refine pure_ (i := 19) (N := some 14) (v := ?_) (a' := ?_) #[true, true, true, true, true, true, true, true, true, true, true, true, true, true, true, true, true, true, true, true] rfl rfl (any_of HT_.out (by kernel_rfl)) (fun _ _ _ h => h) (Or.inl ⟨by rfl, ?_⟩) ?_ ?_
                rotate_left
                · intro w'
                  go_simp
                  with_reducible rfl
                rotate_left
                · simp only [Act.put, List.setIfInBounds_toArray, List.set_cons_zero, List.set_cons_succ, i64_w, i32_w]
                  rfl
                refine done_ (done_of HT_.out (by kernel_rfl)) ?_
                go_upto_region 11 with (fail)
                go_cut [86] (fun v86 wc => ∃ (kq : Nat) (x86_25 : Bool), v86 = .bool x86_25 ∧ Aside0 (interchangelaw13_PoolDowns.j2 kq a1 a2 true t265 x11_2 x12_2 x86_25 l0_0 l0_1 t259 t262 = some r) ∧ Aside0 (kq ≤ k2) ∧ Aside0 (Kd.R (Kd.int .i64) 3 wc w.heap.size (fun _ => True) v266 t265) ∧ Aside0 (Kd.V (Kd.int .i64) 3 wc w.heap.size (fun k_ => some k_ ≠ (v266 : Value).ownBlock ∧ k_ ≠ gb256 ∧ k_ ≠ gb268 ∧ k_ ≠ gb291) (.slice Ao19 t259.length co19) t259) ∧ Aside0 (Kd.V k29 29 wc w.heap.size (fun k_ => some k_ ≠ (v266 : Value).ownBlock ∧ k_ ≠ gb256 ∧ k_ ≠ gb268 ∧ k_ ≠ gb291) (.slice Ao22 t262.length co22) t262) ∧ Aside0 (wc.heap[gb256]? = some (.cells #[(.slice A0_0 l0_0.length c0_0), (.slice (some ad284) l0_1.length c0_1)] 25 (0, 0))) ∧ Aside0 (wc.heap[gb268]? = some (.cells #[(.slice Ao19 t259.length co19), (.slice Ao22 t262.length co22)] 25 (0, 0))) ∧ Aside0 (wc.heap[gb291]? = some (.cells #[.int .i64 t286, .int .i64 t287, .int .i64 t288, .int .i64 t289] 29 (0, 0))) ∧ Aside0 (Below w.heap.size w wc))
                case first =>
                  have H := HC26.out
                  clear HC26
                  by_cases c37 : (t290 != (((rd_T29 l0_1 x12_2).f0) != a1)) = true
                  · rw [if_pos c37] at H
                    have c37b0 : (t290 != (((rd_T29 l0_1 x12_2).f0) != a1)) = true := c37
                    (try (have c37b1 : decide (t290 = (((rd_T29 l0_1 x12_2).f0) != a1)) = false := by simpa using c37))
                    (try (have c37b2 : (t290 == (((rd_T29 l0_1 x12_2).f0) != a1)) = false := by simpa using c37))
                    (try (have c37b3 : ¬ (t290 = (((rd_T29 l0_1 x12_2).f0) != a1)) := by simpa using c37))
                    clear c37
                    (first | rw [c37b0] | (simp only [i64_w, i32_w]; rw [c37b0]) | skip)
                    have H' := Aside0.mk H
                    clear H
                    try go_wp2
                    have n0_ : Aside0 (Kd.R (Kd.int .i64) 3 ((((w32.setCell ⟨gb291, 0, none⟩ (.int .i64 t286)).setCell ⟨gb291, 1, none⟩ (.int .i64 t287)).setCell ⟨gb291, 2, none⟩ (.int .i64 t288)).setCell ⟨gb291, 3, none⟩ (.int .i64 t289)) w.heap.size (fun _ => True) v266 t265) := ⟨by (with_reducible repeat (first | apply Kd.R_alloc | apply Kd.R_drewN | apply Kd.R_drew)); exact Kd.R_mono (Kd.R_far (p := ⟨gb291, 3, none⟩) (Kd.R_far (p := ⟨gb291, 2, none⟩) (Kd.R_far (p := ⟨gb291, 1, none⟩) (Kd.R_far (p := ⟨gb291, 0, none⟩) (Kd.R_types HO_10.out BK291.out (by decide)) (fun _ hk => hk.2) (.int .i64 t286)) (fun _ hk => hk.2) (.int .i64 t287)) (fun _ hk => hk.2) (.int .i64 t288)) (fun _ hk => hk.2) (.int .i64 t289)) (fun _ hk => trivial)⟩
                    have n1_ : Aside0 (Kd.V (Kd.int .i64) 3 ((((w32.setCell ⟨gb291, 0, none⟩ (.int .i64 t286)).setCell ⟨gb291, 1, none⟩ (.int .i64 t287)).setCell ⟨gb291, 2, none⟩ (.int .i64 t288)).setCell ⟨gb291, 3, none⟩ (.int .i64 t289)) w.heap.size (fun k_ => some k_ ≠ (v266 : Value).ownBlock ∧ k_ ≠ gb256 ∧ k_ ≠ gb268 ∧ k_ ≠ gb291) (.slice Ao19 t259.length co19) t259) := ⟨by (with_reducible repeat (first | apply Kd.V_alloc | apply Kd.V_drewN | apply Kd.V_drew)); exact Kd.V_mono (Kd.V_far (p := ⟨gb291, 3, none⟩) (Kd.V_far (p := ⟨gb291, 2, none⟩) (Kd.V_far (p := ⟨gb291, 1, none⟩) (Kd.V_far (p := ⟨gb291, 0, none⟩) (Kd.V_mono HO_269000.out (fun k_ hk => (⟨hk, hk.2.2.2⟩ : _ ∧ k_ ≠ gb291))) (fun _ hk => hk.2) (.int .i64 t286)) (fun _ hk => hk.2) (.int .i64 t287)) (fun _ hk => hk.2) (.int .i64 t288)) (fun _ hk => hk.2) (.int .i64 t289)) (fun _ hk => ⟨hk.1.1, ⟨hk.1.2.1, ⟨hk.1.2.2.1, hk.1.2.2.2⟩⟩⟩)⟩
                    have n2_ : Aside0 (Kd.V k29 29 ((((w32.setCell ⟨gb291, 0, none⟩ (.int .i64 t286)).setCell ⟨gb291, 1, none⟩ (.int .i64 t287)).setCell ⟨gb291, 2, none⟩ (.int .i64 t288)).setCell ⟨gb291, 3, none⟩ (.int .i64 t289)) w.heap.size (fun k_ => some k_ ≠ (v266 : Value).ownBlock ∧ k_ ≠ gb256 ∧ k_ ≠ gb268 ∧ k_ ≠ gb291) (.slice Ao22 t262.length co22) t262) := ⟨by (with_reducible repeat (first | apply Kd.V_alloc | apply Kd.V_drewN | apply Kd.V_drew)); exact Kd.V_mono (Kd.V_far (p := ⟨gb291, 3, none⟩) (Kd.V_far (p := ⟨gb291, 2, none⟩) (Kd.V_far (p := ⟨gb291, 1, none⟩) (Kd.V_far (p := ⟨gb291, 0, none⟩) (Kd.V_mono HO_269001.out (fun k_ hk => (⟨hk, hk.2.2.2⟩ : _ ∧ k_ ≠ gb291))) (fun _ hk => hk.2) (.int .i64 t286)) (fun _ hk => hk.2) (.int .i64 t287)) (fun _ hk => hk.2) (.int .i64 t288)) (fun _ hk => hk.2) (.int .i64 t289)) (fun _ hk => ⟨hk.1.1, ⟨hk.1.2.1, ⟨hk.1.2.2.1, hk.1.2.2.2⟩⟩⟩)⟩
                    have n3_ : Aside0 (((((w32.setCell ⟨gb291, 0, none⟩ (.int .i64 t286)).setCell ⟨gb291, 1, none⟩ (.int .i64 t287)).setCell ⟨gb291, 2, none⟩ (.int .i64 t288)).setCell ⟨gb291, 3, none⟩ (.int .i64 t289)).heap[gb256]? = some (.cells #[.slice A0_0 l0_0.length c0_0, .slice (some ad284) l0_1.length c0_1] 25 (0, 0))) := ⟨by (with_reducible repeat (first | refine blk_drewN ?_ _ | refine blk_drew ?_ | refine blk_alloc ?_ _)); refine blk_far ?_ NB256_291.out _; (with_reducible repeat (first | refine blk_drewN ?_ _ | refine blk_drew ?_ | refine blk_alloc ?_ _)); refine blk_far ?_ NB256_291.out _; (with_reducible repeat (first | refine blk_drewN ?_ _ | refine blk_drew ?_ | refine blk_alloc ?_ _)); refine blk_far ?_ NB256_291.out _; (with_reducible repeat (first | refine blk_drewN ?_ _ | refine blk_drew ?_ | refine blk_alloc ?_ _)); refine blk_far ?_ NB256_291.out _; (with_reducible repeat (first | refine blk_drewN ?_ _ | refine blk_drew ?_ | refine blk_alloc ?_ _)); exact BK256.out⟩
                    have n4_ : Aside0 (((((w32.setCell ⟨gb291, 0, none⟩ (.int .i64 t286)).setCell ⟨gb291, 1, none⟩ (.int .i64 t287)).setCell ⟨gb291, 2, none⟩ (.int .i64 t288)).setCell ⟨gb291, 3, none⟩ (.int .i64 t289)).heap[gb268]? = some (.cells #[.slice Ao19 t259.length co19, .slice Ao22 t262.length co22] 25 (0, 0))) := ⟨by (with_reducible repeat (first | refine blk_drewN ?_ _ | refine blk_drew ?_ | refine blk_alloc ?_ _)); refine blk_far ?_ NB268_291.out _; (with_reducible repeat (first | refine blk_drewN ?_ _ | refine blk_drew ?_ | refine blk_alloc ?_ _)); refine blk_far ?_ NB268_291.out _; (with_reducible repeat (first | refine blk_drewN ?_ _ | refine blk_drew ?_ | refine blk_alloc ?_ _)); refine blk_far ?_ NB268_291.out _; (with_reducible repeat (first | refine blk_drewN ?_ _ | refine blk_drew ?_ | refine blk_alloc ?_ _)); refine blk_far ?_ NB268_291.out _; (with_reducible repeat (first | refine blk_drewN ?_ _ | refine blk_drew ?_ | refine blk_alloc ?_ _)); exact BK268.out⟩
                    have n5_ : Aside0 (((((w32.setCell ⟨gb291, 0, none⟩ (.int .i64 t286)).setCell ⟨gb291, 1, none⟩ (.int .i64 t287)).setCell ⟨gb291, 2, none⟩ (.int .i64 t288)).setCell ⟨gb291, 3, none⟩ (.int .i64 t289)).heap[gb291]? = some (.cells #[.int .i64 t286, .int .i64 t287, .int .i64 t288, .int .i64 t289] 29 (0, 0))) := ⟨by (with_reducible repeat (first | refine blk_drewN ?_ _ | refine blk_drew ?_ | refine blk_alloc ?_ _)); refine blk_put (cs := #[.int .i64 t286, .int .i64 t287, .int .i64 t288, .int .i64 0]) ?_ 3 _ rfl; (with_reducible repeat (first | refine blk_drewN ?_ _ | refine blk_drew ?_ | refine blk_alloc ?_ _)); refine blk_put (cs := #[.int .i64 t286, .int .i64 t287, .int .i64 0, .int .i64 0]) ?_ 2 _ rfl; (with_reducible repeat (first | refine blk_drewN ?_ _ | refine blk_drew ?_ | refine blk_alloc ?_ _)); refine blk_put (cs := #[.int .i64 t286, .int .i64 0, .int .i64 0, .int .i64 0]) ?_ 1 _ rfl; (with_reducible repeat (first | refine blk_drewN ?_ _ | refine blk_drew ?_ | refine blk_alloc ?_ _)); refine blk_put (cs := #[.int .i64 0, .int .i64 0, .int .i64 0, .int .i64 0]) ?_ 0 _ rfl; (with_reducible repeat (first | refine blk_drewN ?_ _ | refine blk_drew ?_ | refine blk_alloc ?_ _)); exact BK291.out⟩
                    have n6_ : Aside0 (Below w.heap.size w ((((w32.setCell ⟨gb291, 0, none⟩ (.int .i64 t286)).setCell ⟨gb291, 1, none⟩ (.int .i64 t287)).setCell ⟨gb291, 2, none⟩ (.int .i64 t288)).setCell ⟨gb291, 3, none⟩ (.int .i64 t289))) := ⟨by repeat (first | (with_reducible first | exact HB.out | apply below_alloc | apply pw_below_drewN | apply below_drew1 | refine below_set ?_ GE256.out | refine below_set ?_ GE268.out | refine below_set ?_ GE291.out) | exact HB.out)⟩
                    (try clear HO_10)
                    (try clear HO_269000)
                    (try clear HO_269001)
                    (try clear BK256)
                    (try clear BK268)
                    (try clear BK291)
                    (try clear HB)
                    generalize ((((w32.setCell ⟨gb291, 0, none⟩ (.int .i64 t286)).setCell ⟨gb291, 1, none⟩ (.int .i64 t287)).setCell ⟨gb291, 2, none⟩ (.int .i64 t288)).setCell ⟨gb291, 3, none⟩ (.int .i64 t289)) = w38 at n0_ n1_ n2_ n3_ n4_ n5_ n6_ ⊢
                    have HO_10 := n0_
                    have HO_269000 := n1_
                    have HO_269001 := n2_
                    have BK256 := n3_
                    have BK268 := n4_
                    have BK291 := n5_
                    have HB := n6_
                    clear n0_ n1_ n2_ n3_ n4_ n5_ n6_
                    have n0_ := Aside0.mk (Kd.R_drew HO_10.out)
                    have n1_ := Aside0.mk (Kd.V_drew HO_269000.out)
                    have n2_ := Aside0.mk (Kd.V_drew HO_269001.out)
                    have n3_ := Aside0.mk (blk_drew BK256.out)
                    have n4_ := Aside0.mk (blk_drew BK268.out)
                    have n5_ := Aside0.mk (blk_drew BK291.out)
                    have n6_ := Aside0.mk (below_drew1 HB.out)
                    clear HO_10
                    clear HO_269000
                    clear HO_269001
                    clear BK256
                    clear BK268
                    clear BK291
                    clear HB
                    have HO_10 := n0_
                    have HO_269000 := n1_
                    have HO_269001 := n2_
                    have BK256 := n3_
                    have BK268 := n4_
                    have BK291 := n5_
                    have HB := n6_
                    clear n0_ n1_ n2_ n3_ n4_ n5_ n6_
                    have p292 : 0 ≤ (x12_2 : Int) := of_decide_eq_true (by first | (with_reducible assumption) | assumption)
                    have q292 : x12_2 < (l0_1.length : Int) := of_decide_eq_true (by first | (with_reducible assumption) | assumption)
                    obtain ⟨ad292, e292, hx292_0, hx292_1, hx292_2, hx292_3⟩ := at_T29 HR0_1.out x12_2 p292 q292
                    have hw292_3 := hx292_3
                    have hw292_2 := hx292_2
                    have hw292_1 := hx292_1
                    have hw292_0 := hx292_0
                    obtain rfl : ad284 = ad292 := (by injection e292)
                    replace hx292_0 := (HB.out.cell (World.block_lt_of_cell? w _ hx292_0)).trans hx292_0
                    replace hx292_1 := (HB.out.cell (World.block_lt_of_cell? w _ hx292_1)).trans hx292_1
                    replace hx292_2 := (HB.out.cell (World.block_lt_of_cell? w _ hx292_2)).trans hx292_2
                    replace hx292_3 := (HB.out.cell (World.block_lt_of_cell? w _ hx292_3)).trans hx292_3
                    replace p292 := eq_true p292
                    replace q292 := eq_true q292
                    refine start_ (n := 22) (S := fun w' => w'.cell? ⟨gb256, 0, none⟩ = some (.slice A0_0 l0_0.length c0_0) ∧ w'.cell? ⟨gb256, 1, none⟩ = some (.slice (some ad284) l0_1.length c0_1) ∧ w'.cell? (ad284.add ((x12_2).toNat * 4)) = some (.int .i64 ((rd_T29 l0_1 x12_2).f0)) ∧ w'.cell? ⟨(ad284.add ((x12_2).toNat * 4)).block, (ad284.add ((x12_2).toNat * 4)).off + 1, none⟩ = some (.int .i64 ((rd_T29 l0_1 x12_2).f1)) ∧ w'.cell? ⟨(ad284.add ((x12_2).toNat * 4)).block, (ad284.add ((x12_2).toNat * 4)).off + 2, none⟩ = some (.int .i64 ((rd_T29 l0_1 x12_2).f2)) ∧ w'.cell? ⟨(ad284.add ((x12_2).toNat * 4)).block, (ad284.add ((x12_2).toNat * 4)).off + 3, none⟩ = some (.int .i64 ((rd_T29 l0_1 x12_2).f3))) (ds := []) #[false, false, false, false, false, false, false, false, false, false, false, false, false, false, false, false, false, false, false, false, false, false] (by kernel_rfl) rfl rfl ⟨(blk_cell BK256.out 0).trans rfl, (blk_cell BK256.out 1).trans rfl, ((HB.out.cell (World.block_lt_of_cell? w _ hw292_0)).trans hw292_0), ((HB.out.cell (World.block_lt_of_cell? w _ hw292_1)).trans hw292_1), ((HB.out.cell (World.block_lt_of_cell? w _ hw292_2)).trans hw292_2), ((HB.out.cell (World.block_lt_of_cell? w _ hw292_3)).trans hw292_3)⟩ (fun hHeld => ?_); refine with_tabW interchangelaw13_PoolDowns.tab11 interchangelaw13_PoolDowns.bits11 (fun HT_ HW_ => ?_)
                    generalize w38.drew = w39 at HO_10 HO_269000 HO_269001 BK256 BK268 BK291 HB hx292_0 hx292_1 hx292_2 hx292_3 hHeld ⊢
                    refine pure_ (i := 0) (N := some 65) (v := ?_) (a' := ?_) #[true, false, false, false, false, false, false, false, false, false, false, false, false, false, false, false, false, false, false, false, false, false] rfl rfl (any_of HT_.out (by kernel_rfl)) (fun _ _ _ h => h) (Or.inl ⟨by rfl, ?_⟩) ?_ ?_
                    rotate_left
                    · intro w'
                      go_simp
                      with_reducible rfl
                    rotate_left
                    · simp only [Act.put, List.setIfInBounds_toArray, List.set_cons_zero, List.set_cons_succ, i64_w, i32_w]
                      rfl
                    refine pure_ (i := 1) (N := some 66) (v := ?_) (a' := ?_) #[true, true, false, false, false, false, false, false, false, false, false, false, false, false, false, false, false, false, false, false, false, false] rfl rfl (any_of HT_.out (by kernel_rfl)) (fun _ _ _ h => h) (Or.inl ⟨by rfl, ?_⟩) ?_ ?_
                    rotate_left
                    · intro w'
                      go_simp
                      with_reducible rfl
                    rotate_left
                    · simp only [Act.put, List.setIfInBounds_toArray, List.set_cons_zero, List.set_cons_succ, i64_w, i32_w]
                      rfl
                    refine pure_ (i := 3) (N := some 68) (v := ?_) (a' := ?_) #[true, true, false, true, false, false, false, false, false, false, false, false, false, false, false, false, false, false, false, false, false, false] rfl rfl (any_of HT_.out (by kernel_rfl)) (fun _ _ _ h => h) (Or.inl ⟨by rfl, ?_⟩) ?_ ?_
                    rotate_left
                    · intro w'
                      go_simp
                      with_reducible rfl
                    rotate_left
                    · simp only [Act.put, List.setIfInBounds_toArray, List.set_cons_zero, List.set_cons_succ, i64_w, i32_w]
                      rfl
                    refine pure_ (i := 7) (N := some 72) (v := ?_) (a' := ?_) #[true, true, false, true, false, false, false, true, false, false, false, false, false, false, false, false, false, false, false, false, false, false] rfl rfl (any_of HT_.out (by kernel_rfl)) (fun _ _ _ h => h) (Or.inl ⟨by rfl, ?_⟩) ?_ ?_
                    rotate_left
                    · intro w'
                      go_simp
                      with_reducible rfl
                    rotate_left
                    · simp only [Act.put, List.setIfInBounds_toArray, List.set_cons_zero, List.set_cons_succ, i64_w, i32_w]
                      rfl
                    refine take_ (i := 2) (N := some 67) (v := ?_) (a' := ?_) #[true, true, true, true, false, false, false, true, false, false, false, false, false, false, false, false, false, false, false, false, false, false] rfl rfl (take_ofW HT_.out HW_.out (by kernel_rfl)) (fun _ _ _ h => h) (Or.inl ⟨by rfl, ?_⟩) hHeld ?_ ?_
                    rotate_left
                    · rintro w' ⟨s0, s1, s2, s3, s4, s5⟩
                      go_simp
                      with_reducible rfl
                    rotate_left
                    · simp only [Act.put, List.setIfInBounds_toArray, List.set_cons_zero, List.set_cons_succ, i64_w, i32_w]
                      rfl
                    refine pure_ (i := 4) (N := some 69) (v := ?_) (a' := ?_) #[true, true, true, true, true, false, false, true, false, false, false, false, false, false, false, false, false, false, false, false, false, false] rfl rfl (any_of HT_.out (by kernel_rfl)) (fun _ _ _ h => h) (Or.inl ⟨by rfl, ?_⟩) ?_ ?_
                    rotate_left
                    · intro w'
                      go_simp
                      with_reducible rfl
                    rotate_left
                    · simp only [Act.put, List.setIfInBounds_toArray, List.set_cons_zero, List.set_cons_succ, i64_w, i32_w]
                      rfl
                    refine pure_ (i := 5) (N := some 70) (v := ?_) (a' := ?_) #[true, true, true, true, true, true, false, true, false, false, false, false, false, false, false, false, false, false, false, false, false, false] rfl rfl (any_of HT_.out (by kernel_rfl)) (fun _ _ _ h => h) (Or.inl ⟨by rfl, ?_⟩) ?_ ?_
                    rotate_left
                    · intro w'
                      go_simp
                      with_reducible rfl
                    rotate_left
                    · simp only [Act.put, List.setIfInBounds_toArray, List.set_cons_zero, List.set_cons_succ, i64_w, i32_w]
                      rfl
                    refine take_ (i := 6) (N := some 71) (v := ?_) (a' := ?_) #[true, true, true, true, true, true, true, true, false, false, false, false, false, false, false, false, false, false, false, false, false, false] rfl rfl (take_ofW HT_.out HW_.out (by kernel_rfl)) (fun _ _ _ h => h) (Or.inl ⟨by rfl, ?_⟩) hHeld ?_ ?_
                    rotate_left
                    · rintro w' ⟨s0, s1, s2, s3, s4, s5⟩
                      go_simp
                      with_reducible rfl
                    rotate_left
                    · simp only [Act.put, List.setIfInBounds_toArray, List.set_cons_zero, List.set_cons_succ, i64_w, i32_w]
                      rfl
                    refine pure_ (i := 8) (N := some 73) (v := ?_) (a' := ?_) #[true, true, true, true, true, true, true, true, true, false, false, false, false, false, false, false, false, false, false, false, false, false] rfl rfl (any_of HT_.out (by kernel_rfl)) (fun _ _ _ h => h) (Or.inl ⟨by rfl, ?_⟩) ?_ ?_
                    rotate_left
                    · intro w'
                      go_simp
                      with_reducible rfl
                    rotate_left
                    · simp only [Act.put, List.setIfInBounds_toArray, List.set_cons_zero, List.set_cons_succ, i64_w, i32_w]
                      rfl
                    refine pure_ (i := 9) (N := some 74) (v := ?_) (a' := ?_) #[true, true, true, true, true, true, true, true, true, true, false, false, false, false, false, false, false, false, false, false, false, false] rfl rfl (any_of HT_.out (by kernel_rfl)) (fun _ _ _ h => h) (Or.inl ⟨by rfl, ?_⟩) ?_ ?_
                    rotate_left
                    · intro w'
                      go_simp
                      with_reducible rfl
                    rotate_left
                    · simp only [Act.put, List.setIfInBounds_toArray, List.set_cons_zero, List.set_cons_succ, i64_w, i32_w]
                      rfl
                    refine pure_ (i := 10) (N := some 75) (v := ?_) (a' := ?_) #[true, true, true, true, true, true, true, true, true, true, true, false, false, false, false, false, false, false, false, false, false, false] rfl rfl (any_of HT_.out (by kernel_rfl)) (fun _ _ _ h => h) (Or.inl ⟨by rfl, ?_⟩) ?_ ?_
                    rotate_left
                    · intro w'
                      go_simp
                      with_reducible rfl
                    rotate_left
                    · simp only [Act.put, List.setIfInBounds_toArray, List.set_cons_zero, List.set_cons_succ, i64_w, i32_w]
                      rfl
                    refine pure_ (i := 11) (N := some 76) (v := undef) (a' := ?_) #[true, true, true, true, true, true, true, true, true, true, true, true, false, false, false, false, false, false, false, false, false, false] rfl rfl (any_of HT_.out (by kernel_rfl)) (fun _ _ _ h => h) (Or.inr ⟨by rfl, rfl⟩) ?_ ?_
                    rotate_left
                    · simp only [Act.put, List.setIfInBounds_toArray, List.set_cons_zero, List.set_cons_succ, i64_w, i32_w]
                      rfl
                    refine pure_ (i := 12) (N := some 77) (v := undef) (a' := ?_) #[true, true, true, true, true, true, true, true, true, true, true, true, true, false, false, false, false, false, false, false, false, false] rfl rfl (any_of HT_.out (by kernel_rfl)) (fun _ _ _ h => h) (Or.inr ⟨by rfl, rfl⟩) ?_ ?_
                    rotate_left
                    · simp only [Act.put, List.setIfInBounds_toArray, List.set_cons_zero, List.set_cons_succ, i64_w, i32_w]
                      rfl
                    refine pure_ (i := 13) (N := some 78) (v := undef) (a' := ?_) #[true, true, true, true, true, true, true, true, true, true, true, true, true, true, false, false, false, false, false, false, false, false] rfl rfl (any_of HT_.out (by kernel_rfl)) (fun _ _ _ h => h) (Or.inr ⟨by rfl, rfl⟩) ?_ ?_
                    rotate_left
                    · simp only [Act.put, List.setIfInBounds_toArray, List.set_cons_zero, List.set_cons_succ, i64_w, i32_w]
                      rfl
                    refine pure_ (i := 14) (N := some 79) (v := undef) (a' := ?_) #[true, true, true, true, true, true, true, true, true, true, true, true, true, true, true, false, false, false, false, false, false, false] rfl rfl (any_of HT_.out (by kernel_rfl)) (fun _ _ _ h => h) (Or.inr ⟨by rfl, rfl⟩) ?_ ?_
                    rotate_left
                    · simp only [Act.put, List.setIfInBounds_toArray, List.set_cons_zero, List.set_cons_succ, i64_w, i32_w]
                      rfl
                    refine pure_ (i := 15) (N := some 80) (v := undef) (a' := ?_) #[true, true, true, true, true, true, true, true, true, true, true, true, true, true, true, true, false, false, false, false, false, false] rfl rfl (any_of HT_.out (by kernel_rfl)) (fun _ _ _ h => h) (Or.inr ⟨by rfl, rfl⟩) ?_ ?_
                    rotate_left
                    · simp only [Act.put, List.setIfInBounds_toArray, List.set_cons_zero, List.set_cons_succ, i64_w, i32_w]
                      rfl
                    refine pure_ (i := 16) (N := some 81) (v := undef) (a' := ?_) #[true, true, true, true, true, true, true, true, true, true, true, true, true, true, true, true, true, false, false, false, false, false] rfl rfl (any_of HT_.out (by kernel_rfl)) (fun _ _ _ h => h) (Or.inr ⟨by rfl, rfl⟩) ?_ ?_
                    rotate_left
                    · simp only [Act.put, List.setIfInBounds_toArray, List.set_cons_zero, List.set_cons_succ, i64_w, i32_w]
                      rfl
                    refine pure_ (i := 17) (N := some 82) (v := undef) (a' := ?_) #[true, true, true, true, true, true, true, true, true, true, true, true, true, true, true, true, true, true, false, false, false, false] rfl rfl (any_of HT_.out (by kernel_rfl)) (fun _ _ _ h => h) (Or.inr ⟨by rfl, rfl⟩) ?_ ?_
                    rotate_left
                    · simp only [Act.put, List.setIfInBounds_toArray, List.set_cons_zero, List.set_cons_succ, i64_w, i32_w]
                      rfl
                    refine pure_ (i := 18) (N := some 83) (v := undef) (a' := ?_) #[true, true, true, true, true, true, true, true, true, true, true, true, true, true, true, true, true, true, true, false, false, false] rfl rfl (any_of HT_.out (by kernel_rfl)) (fun _ _ _ h => h) (Or.inr ⟨by rfl, rfl⟩) ?_ ?_
                    rotate_left
                    · simp only [Act.put, List.setIfInBounds_toArray, List.set_cons_zero, List.set_cons_succ, i64_w, i32_w]
                      rfl
                    refine pure_ (i := 19) (N := some 84) (v := undef) (a' := ?_) #[true, true, true, true, true, true, true, true, true, true, true, true, true, true, true, true, true, true, true, true, false, false] rfl rfl (any_of HT_.out (by kernel_rfl)) (fun _ _ _ h => h) (Or.inr ⟨by rfl, rfl⟩) ?_ ?_
                    rotate_left
                    · simp only [Act.put, List.setIfInBounds_toArray, List.set_cons_zero, List.set_cons_succ, i64_w, i32_w]
                      rfl
                    refine pure_ (i := 20) (N := some 85) (v := undef) (a' := ?_) #[true, true, true, true, true, true, true, true, true, true, true, true, true, true, true, true, true, true, true, true, true, false] rfl rfl (any_of HT_.out (by kernel_rfl)) (fun _ _ _ h => h) (Or.inr ⟨by rfl, rfl⟩) ?_ ?_
                    rotate_left
                    · simp only [Act.put, List.setIfInBounds_toArray, List.set_cons_zero, List.set_cons_succ, i64_w, i32_w]
                      rfl
                    refine pure_ (i := 21) (N := some 86) (v := ?_) (a' := ?_) #[true, true, true, true, true, true, true, true, true, true, true, true, true, true, true, true, true, true, true, true, true, true] rfl rfl (any_of HT_.out (by kernel_rfl)) (fun _ _ _ h => h) (Or.inl ⟨by rfl, ?_⟩) ?_ ?_
                    rotate_left
                    · intro w'
                      go_simp
                      with_reducible rfl
                    rotate_left
                    · simp only [Act.put, List.setIfInBounds_toArray, List.set_cons_zero, List.set_cons_succ, i64_w, i32_w]
                      rfl
                    refine done_ (done_of HT_.out (by kernel_rfl)) ?_
                    try go_wp2
                    go_meet
                    case rel => exact ⟨_, (true), (by first | rfl | (simp; done) | (simp [*]; done)), H', ⟨by have := HJ5.out; have := HK2.out; first | omega | exact Nat.le_refl _⟩, ⟨by (with_reducible repeat (first | apply Kd.R_alloc | apply Kd.R_drewN | apply Kd.R_drew)); exact HO_10.out⟩, ⟨by (with_reducible repeat (first | apply Kd.V_alloc | apply Kd.V_drewN | apply Kd.V_drew)); exact HO_269000.out⟩, ⟨by (with_reducible repeat (first | apply Kd.V_alloc | apply Kd.V_drewN | apply Kd.V_drew)); exact HO_269001.out⟩, ⟨by (with_reducible repeat (first | refine blk_drewN ?_ _ | refine blk_drew ?_ | refine blk_alloc ?_ _)); exact BK256.out⟩, ⟨by (with_reducible repeat (first | refine blk_drewN ?_ _ | refine blk_drew ?_ | refine blk_alloc ?_ _)); exact BK268.out⟩, ⟨by (with_reducible repeat (first | refine blk_drewN ?_ _ | refine blk_drew ?_ | refine blk_alloc ?_ _)); exact BK291.out⟩, ⟨by repeat (first | (with_reducible first | exact HB.out | apply below_alloc | apply pw_below_drewN | apply below_drew1 | refine below_set ?_ GE256.out | refine below_set ?_ GE268.out | refine below_set ?_ GE291.out) | exact HB.out)⟩⟩
                  · rw [if_neg c37] at H
                    have c37b0 : (t290 != (((rd_T29 l0_1 x12_2).f0) != a1)) = false := by simpa using c37
                    (try (have c37b1 : decide (t290 = (((rd_T29 l0_1 x12_2).f0) != a1)) = true := by simpa using c37))
                    (try (have c37b2 : (t290 == (((rd_T29 l0_1 x12_2).f0) != a1)) = true := by simpa using c37))
                    clear c37
                    (first | rw [c37b0] | (simp only [i64_w, i32_w]; rw [c37b0]) | skip)
                    by_cases c40 : t290 = true
                    · subst c40
                      have H1 : (interchangelaw13_PoolDowns.j2 k2 a1 a2 true t265 x11_2 x12_2 (!(t286 == ((rd_T29 l0_1 x12_2).f0)) || (!(t287 == ((rd_T29 l0_1 x12_2).f1)) || (!(t288 == ((rd_T29 l0_1 x12_2).f2)) || (!(t289 == ((rd_T29 l0_1 x12_2).f3)))))) l0_0 l0_1 t259 t262) = some r := by rw [if_pos rfl] at H; exact H
                      clear H
                      have H := H1
                      clear H1
                      have H' := Aside0.mk H
                      clear H
                      try go_wp2
                      have n0_ : Aside0 (Kd.R (Kd.int .i64) 3 ((((w32.setCell ⟨gb291, 0, none⟩ (.int .i64 t286)).setCell ⟨gb291, 1, none⟩ (.int .i64 t287)).setCell ⟨gb291, 2, none⟩ (.int .i64 t288)).setCell ⟨gb291, 3, none⟩ (.int .i64 t289)) w.heap.size (fun _ => True) v266 t265) := ⟨by (with_reducible repeat (first | apply Kd.R_alloc | apply Kd.R_drewN | apply Kd.R_drew)); exact Kd.R_mono (Kd.R_far (p := ⟨gb291, 3, none⟩) (Kd.R_far (p := ⟨gb291, 2, none⟩) (Kd.R_far (p := ⟨gb291, 1, none⟩) (Kd.R_far (p := ⟨gb291, 0, none⟩) (Kd.R_types HO_10.out BK291.out (by decide)) (fun _ hk => hk.2) (.int .i64 t286)) (fun _ hk => hk.2) (.int .i64 t287)) (fun _ hk => hk.2) (.int .i64 t288)) (fun _ hk => hk.2) (.int .i64 t289)) (fun _ hk => trivial)⟩
                      have n1_ : Aside0 (Kd.V (Kd.int .i64) 3 ((((w32.setCell ⟨gb291, 0, none⟩ (.int .i64 t286)).setCell ⟨gb291, 1, none⟩ (.int .i64 t287)).setCell ⟨gb291, 2, none⟩ (.int .i64 t288)).setCell ⟨gb291, 3, none⟩ (.int .i64 t289)) w.heap.size (fun k_ => some k_ ≠ (v266 : Value).ownBlock ∧ k_ ≠ gb256 ∧ k_ ≠ gb268 ∧ k_ ≠ gb291) (.slice Ao19 t259.length co19) t259) := ⟨by (with_reducible repeat (first | apply Kd.V_alloc | apply Kd.V_drewN | apply Kd.V_drew)); exact Kd.V_mono (Kd.V_far (p := ⟨gb291, 3, none⟩) (Kd.V_far (p := ⟨gb291, 2, none⟩) (Kd.V_far (p := ⟨gb291, 1, none⟩) (Kd.V_far (p := ⟨gb291, 0, none⟩) (Kd.V_mono HO_269000.out (fun k_ hk => (⟨hk, hk.2.2.2⟩ : _ ∧ k_ ≠ gb291))) (fun _ hk => hk.2) (.int .i64 t286)) (fun _ hk => hk.2) (.int .i64 t287)) (fun _ hk => hk.2) (.int .i64 t288)) (fun _ hk => hk.2) (.int .i64 t289)) (fun _ hk => ⟨hk.1.1, ⟨hk.1.2.1, ⟨hk.1.2.2.1, hk.1.2.2.2⟩⟩⟩)⟩
                      have n2_ : Aside0 (Kd.V k29 29 ((((w32.setCell ⟨gb291, 0, none⟩ (.int .i64 t286)).setCell ⟨gb291, 1, none⟩ (.int .i64 t287)).setCell ⟨gb291, 2, none⟩ (.int .i64 t288)).setCell ⟨gb291, 3, none⟩ (.int .i64 t289)) w.heap.size (fun k_ => some k_ ≠ (v266 : Value).ownBlock ∧ k_ ≠ gb256 ∧ k_ ≠ gb268 ∧ k_ ≠ gb291) (.slice Ao22 t262.length co22) t262) := ⟨by (with_reducible repeat (first | apply Kd.V_alloc | apply Kd.V_drewN | apply Kd.V_drew)); exact Kd.V_mono (Kd.V_far (p := ⟨gb291, 3, none⟩) (Kd.V_far (p := ⟨gb291, 2, none⟩) (Kd.V_far (p := ⟨gb291, 1, none⟩) (Kd.V_far (p := ⟨gb291, 0, none⟩) (Kd.V_mono HO_269001.out (fun k_ hk => (⟨hk, hk.2.2.2⟩ : _ ∧ k_ ≠ gb291))) (fun _ hk => hk.2) (.int .i64 t286)) (fun _ hk => hk.2) (.int .i64 t287)) (fun _ hk => hk.2) (.int .i64 t288)) (fun _ hk => hk.2) (.int .i64 t289)) (fun _ hk => ⟨hk.1.1, ⟨hk.1.2.1, ⟨hk.1.2.2.1, hk.1.2.2.2⟩⟩⟩)⟩
                      have n3_ : Aside0 (((((w32.setCell ⟨gb291, 0, none⟩ (.int .i64 t286)).setCell ⟨gb291, 1, none⟩ (.int .i64 t287)).setCell ⟨gb291, 2, none⟩ (.int .i64 t288)).setCell ⟨gb291, 3, none⟩ (.int .i64 t289)).heap[gb256]? = some (.cells #[.slice A0_0 l0_0.length c0_0, .slice (some ad284) l0_1.length c0_1] 25 (0, 0))) := ⟨by (with_reducible repeat (first | refine blk_drewN ?_ _ | refine blk_drew ?_ | refine blk_alloc ?_ _)); refine blk_far ?_ NB256_291.out _; (with_reducible repeat (first | refine blk_drewN ?_ _ | refine blk_drew ?_ | refine blk_alloc ?_ _)); refine blk_far ?_ NB256_291.out _; (with_reducible repeat (first | refine blk_drewN ?_ _ | refine blk_drew ?_ | refine blk_alloc ?_ _)); refine blk_far ?_ NB256_291.out _; (with_reducible repeat (first | refine blk_drewN ?_ _ | refine blk_drew ?_ | refine blk_alloc ?_ _)); refine blk_far ?_ NB256_291.out _; (with_reducible repeat (first | refine blk_drewN ?_ _ | refine blk_drew ?_ | refine blk_alloc ?_ _)); exact BK256.out⟩
                      have n4_ : Aside0 (((((w32.setCell ⟨gb291, 0, none⟩ (.int .i64 t286)).setCell ⟨gb291, 1, none⟩ (.int .i64 t287)).setCell ⟨gb291, 2, none⟩ (.int .i64 t288)).setCell ⟨gb291, 3, none⟩ (.int .i64 t289)).heap[gb268]? = some (.cells #[.slice Ao19 t259.length co19, .slice Ao22 t262.length co22] 25 (0, 0))) := ⟨by (with_reducible repeat (first | refine blk_drewN ?_ _ | refine blk_drew ?_ | refine blk_alloc ?_ _)); refine blk_far ?_ NB268_291.out _; (with_reducible repeat (first | refine blk_drewN ?_ _ | refine blk_drew ?_ | refine blk_alloc ?_ _)); refine blk_far ?_ NB268_291.out _; (with_reducible repeat (first | refine blk_drewN ?_ _ | refine blk_drew ?_ | refine blk_alloc ?_ _)); refine blk_far ?_ NB268_291.out _; (with_reducible repeat (first | refine blk_drewN ?_ _ | refine blk_drew ?_ | refine blk_alloc ?_ _)); refine blk_far ?_ NB268_291.out _; (with_reducible repeat (first | refine blk_drewN ?_ _ | refine blk_drew ?_ | refine blk_alloc ?_ _)); exact BK268.out⟩
                      have n5_ : Aside0 (((((w32.setCell ⟨gb291, 0, none⟩ (.int .i64 t286)).setCell ⟨gb291, 1, none⟩ (.int .i64 t287)).setCell ⟨gb291, 2, none⟩ (.int .i64 t288)).setCell ⟨gb291, 3, none⟩ (.int .i64 t289)).heap[gb291]? = some (.cells #[.int .i64 t286, .int .i64 t287, .int .i64 t288, .int .i64 t289] 29 (0, 0))) := ⟨by (with_reducible repeat (first | refine blk_drewN ?_ _ | refine blk_drew ?_ | refine blk_alloc ?_ _)); refine blk_put (cs := #[.int .i64 t286, .int .i64 t287, .int .i64 t288, .int .i64 0]) ?_ 3 _ rfl; (with_reducible repeat (first | refine blk_drewN ?_ _ | refine blk_drew ?_ | refine blk_alloc ?_ _)); refine blk_put (cs := #[.int .i64 t286, .int .i64 t287, .int .i64 0, .int .i64 0]) ?_ 2 _ rfl; (with_reducible repeat (first | refine blk_drewN ?_ _ | refine blk_drew ?_ | refine blk_alloc ?_ _)); refine blk_put (cs := #[.int .i64 t286, .int .i64 0, .int .i64 0, .int .i64 0]) ?_ 1 _ rfl; (with_reducible repeat (first | refine blk_drewN ?_ _ | refine blk_drew ?_ | refine blk_alloc ?_ _)); refine blk_put (cs := #[.int .i64 0, .int .i64 0, .int .i64 0, .int .i64 0]) ?_ 0 _ rfl; (with_reducible repeat (first | refine blk_drewN ?_ _ | refine blk_drew ?_ | refine blk_alloc ?_ _)); exact BK291.out⟩
                      have n6_ : Aside0 (Below w.heap.size w ((((w32.setCell ⟨gb291, 0, none⟩ (.int .i64 t286)).setCell ⟨gb291, 1, none⟩ (.int .i64 t287)).setCell ⟨gb291, 2, none⟩ (.int .i64 t288)).setCell ⟨gb291, 3, none⟩ (.int .i64 t289))) := ⟨by repeat (first | (with_reducible first | exact HB.out | apply below_alloc | apply pw_below_drewN | apply below_drew1 | refine below_set ?_ GE256.out | refine below_set ?_ GE268.out | refine below_set ?_ GE291.out) | exact HB.out)⟩
                      (try clear HO_10)
                      (try clear HO_269000)
                      (try clear HO_269001)
                      (try clear BK256)
                      (try clear BK268)
                      (try clear BK291)
                      (try clear HB)
                      generalize ((((w32.setCell ⟨gb291, 0, none⟩ (.int .i64 t286)).setCell ⟨gb291, 1, none⟩ (.int .i64 t287)).setCell ⟨gb291, 2, none⟩ (.int .i64 t288)).setCell ⟨gb291, 3, none⟩ (.int .i64 t289)) = w41 at n0_ n1_ n2_ n3_ n4_ n5_ n6_ ⊢
                      have HO_10 := n0_
                      have HO_269000 := n1_
                      have HO_269001 := n2_
                      have BK256 := n3_
                      have BK268 := n4_
                      have BK291 := n5_
                      have HB := n6_
                      clear n0_ n1_ n2_ n3_ n4_ n5_ n6_
                      have n0_ := Aside0.mk (Kd.R_drew HO_10.out)
                      have n1_ := Aside0.mk (Kd.V_drew HO_269000.out)
                      have n2_ := Aside0.mk (Kd.V_drew HO_269001.out)
                      have n3_ := Aside0.mk (blk_drew BK256.out)
                      have n4_ := Aside0.mk (blk_drew BK268.out)
                      have n5_ := Aside0.mk (blk_drew BK291.out)
                      have n6_ := Aside0.mk (below_drew1 HB.out)
                      clear HO_10
                      clear HO_269000
                      clear HO_269001
                      clear BK256
                      clear BK268
                      clear BK291
                      clear HB
                      have HO_10 := n0_
                      have HO_269000 := n1_
                      have HO_269001 := n2_
                      have BK256 := n3_
                      have BK268 := n4_
                      have BK291 := n5_
                      have HB := n6_
                      clear n0_ n1_ n2_ n3_ n4_ n5_ n6_
                      have p292 : 0 ≤ (x12_2 : Int) := of_decide_eq_true (by first | (with_reducible assumption) | assumption)
                      have q292 : x12_2 < (l0_1.length : Int) := of_decide_eq_true (by first | (with_reducible assumption) | assumption)
                      obtain ⟨ad292, e292, hx292_0, hx292_1, hx292_2, hx292_3⟩ := at_T29 HR0_1.out x12_2 p292 q292
                      have hw292_3 := hx292_3
                      have hw292_2 := hx292_2
                      have hw292_1 := hx292_1
                      have hw292_0 := hx292_0
                      obtain rfl : ad284 = ad292 := (by injection e292)
                      replace hx292_0 := (HB.out.cell (World.block_lt_of_cell? w _ hx292_0)).trans hx292_0
                      replace hx292_1 := (HB.out.cell (World.block_lt_of_cell? w _ hx292_1)).trans hx292_1
                      replace hx292_2 := (HB.out.cell (World.block_lt_of_cell? w _ hx292_2)).trans hx292_2
                      replace hx292_3 := (HB.out.cell (World.block_lt_of_cell? w _ hx292_3)).trans hx292_3
                      replace p292 := eq_true p292
                      replace q292 := eq_true q292
                      have p293 : 0 ≤ (x12_2 : Int) := of_decide_eq_true (by first | (with_reducible assumption) | assumption)
                      have q293 : x12_2 < (l0_1.length : Int) := of_decide_eq_true (by first | (with_reducible assumption) | assumption)
                      obtain ⟨ad293, e293, hx293_0, hx293_1, hx293_2, hx293_3⟩ := at_T29 HR0_1.out x12_2 p293 q293
                      have hw293_3 := hx293_3
                      have hw293_2 := hx293_2
                      have hw293_1 := hx293_1
                      have hw293_0 := hx293_0
                      obtain rfl : ad284 = ad293 := (by injection e293)
                      replace hx293_0 := (HB.out.cell (World.block_lt_of_cell? w _ hx293_0)).trans hx293_0
                      replace hx293_1 := (HB.out.cell (World.block_lt_of_cell? w _ hx293_1)).trans hx293_1
                      replace hx293_2 := (HB.out.cell (World.block_lt_of_cell? w _ hx293_2)).trans hx293_2
                      replace hx293_3 := (HB.out.cell (World.block_lt_of_cell? w _ hx293_3)).trans hx293_3
                      replace p293 := eq_true p293
                      replace q293 := eq_true q293
                      refine start_ (n := 22) (S := fun w' => w'.cell? ⟨gb256, 0, none⟩ = some (.slice A0_0 l0_0.length c0_0) ∧ w'.cell? ⟨gb256, 1, none⟩ = some (.slice (some ad284) l0_1.length c0_1) ∧ w'.cell? ⟨gb291, 0, none⟩ = some (.int .i64 t286) ∧ w'.cell? ⟨gb291, 1, none⟩ = some (.int .i64 t287) ∧ w'.cell? ⟨gb291, 2, none⟩ = some (.int .i64 t288) ∧ w'.cell? ⟨gb291, 3, none⟩ = some (.int .i64 t289) ∧ w'.cell? (ad284.add ((x12_2).toNat * 4)) = some (.int .i64 ((rd_T29 l0_1 x12_2).f0)) ∧ w'.cell? ⟨(ad284.add ((x12_2).toNat * 4)).block, (ad284.add ((x12_2).toNat * 4)).off + 1, none⟩ = some (.int .i64 ((rd_T29 l0_1 x12_2).f1)) ∧ w'.cell? ⟨(ad284.add ((x12_2).toNat * 4)).block, (ad284.add ((x12_2).toNat * 4)).off + 2, none⟩ = some (.int .i64 ((rd_T29 l0_1 x12_2).f2)) ∧ w'.cell? ⟨(ad284.add ((x12_2).toNat * 4)).block, (ad284.add ((x12_2).toNat * 4)).off + 3, none⟩ = some (.int .i64 ((rd_T29 l0_1 x12_2).f3)) ∧ w'.cell? (ad284.add ((x12_2).toNat * 4)) = some (.int .i64 ((rd_T29 l0_1 x12_2).f0)) ∧ w'.cell? ⟨(ad284.add ((x12_2).toNat * 4)).block, (ad284.add ((x12_2).toNat * 4)).off + 1, none⟩ = some (.int .i64 ((rd_T29 l0_1 x12_2).f1)) ∧ w'.cell? ⟨(ad284.add ((x12_2).toNat * 4)).block, (ad284.add ((x12_2).toNat * 4)).off + 2, none⟩ = some (.int .i64 ((rd_T29 l0_1 x12_2).f2)) ∧ w'.cell? ⟨(ad284.add ((x12_2).toNat * 4)).block, (ad284.add ((x12_2).toNat * 4)).off + 3, none⟩ = some (.int .i64 ((rd_T29 l0_1 x12_2).f3))) (ds := []) #[false, false, false, false, false, false, false, false, false, false, false, false, false, false, false, false, false, false, false, false, false, false] (by kernel_rfl) rfl rfl ⟨(blk_cell BK256.out 0).trans rfl, (blk_cell BK256.out 1).trans rfl, (blk_cell BK291.out 0).trans rfl, (blk_cell BK291.out 1).trans rfl, (blk_cell BK291.out 2).trans rfl, (blk_cell BK291.out 3).trans rfl, ((HB.out.cell (World.block_lt_of_cell? w _ hw292_0)).trans hw292_0), ((HB.out.cell (World.block_lt_of_cell? w _ hw292_1)).trans hw292_1), ((HB.out.cell (World.block_lt_of_cell? w _ hw292_2)).trans hw292_2), ((HB.out.cell (World.block_lt_of_cell? w _ hw292_3)).trans hw292_3), ((HB.out.cell (World.block_lt_of_cell? w _ hw293_0)).trans hw293_0), ((HB.out.cell (World.block_lt_of_cell? w _ hw293_1)).trans hw293_1), ((HB.out.cell (World.block_lt_of_cell? w _ hw293_2)).trans hw293_2), ((HB.out.cell (World.block_lt_of_cell? w _ hw293_3)).trans hw293_3)⟩ (fun hHeld => ?_); refine with_tabW interchangelaw13_PoolDowns.tab11 interchangelaw13_PoolDowns.bits11 (fun HT_ HW_ => ?_)
                      generalize w41.drew = w42 at HO_10 HO_269000 HO_269001 BK256 BK268 BK291 HB hx292_0 hx292_1 hx292_2 hx292_3 hx293_0 hx293_1 hx293_2 hx293_3 hHeld ⊢
                      refine pure_ (i := 0) (N := some 65) (v := ?_) (a' := ?_) #[true, false, false, false, false, false, false, false, false, false, false, false, false, false, false, false, false, false, false, false, false, false] rfl rfl (any_of HT_.out (by kernel_rfl)) (fun _ _ _ h => h) (Or.inl ⟨by rfl, ?_⟩) ?_ ?_
                      rotate_left
                      · intro w'
                        go_simp
                        with_reducible rfl
                      rotate_left
                      · simp only [Act.put, List.setIfInBounds_toArray, List.set_cons_zero, List.set_cons_succ, i64_w, i32_w]
                        rfl
                      refine pure_ (i := 1) (N := some 66) (v := ?_) (a' := ?_) #[true, true, false, false, false, false, false, false, false, false, false, false, false, false, false, false, false, false, false, false, false, false] rfl rfl (any_of HT_.out (by kernel_rfl)) (fun _ _ _ h => h) (Or.inl ⟨by rfl, ?_⟩) ?_ ?_
                      rotate_left
                      · intro w'
                        go_simp
                        with_reducible rfl
                      rotate_left
                      · simp only [Act.put, List.setIfInBounds_toArray, List.set_cons_zero, List.set_cons_succ, i64_w, i32_w]
                        rfl
                      refine pure_ (i := 3) (N := some 68) (v := ?_) (a' := ?_) #[true, true, false, true, false, false, false, false, false, false, false, false, false, false, false, false, false, false, false, false, false, false] rfl rfl (any_of HT_.out (by kernel_rfl)) (fun _ _ _ h => h) (Or.inl ⟨by rfl, ?_⟩) ?_ ?_
                      rotate_left
                      · intro w'
                        go_simp
                        with_reducible rfl
                      rotate_left
                      · simp only [Act.put, List.setIfInBounds_toArray, List.set_cons_zero, List.set_cons_succ, i64_w, i32_w]
                        rfl
                      refine pure_ (i := 7) (N := some 72) (v := ?_) (a' := ?_) #[true, true, false, true, false, false, false, true, false, false, false, false, false, false, false, false, false, false, false, false, false, false] rfl rfl (any_of HT_.out (by kernel_rfl)) (fun _ _ _ h => h) (Or.inl ⟨by rfl, ?_⟩) ?_ ?_
                      rotate_left
                      · intro w'
                        go_simp
                        with_reducible rfl
                      rotate_left
                      · simp only [Act.put, List.setIfInBounds_toArray, List.set_cons_zero, List.set_cons_succ, i64_w, i32_w]
                        rfl
                      refine take_ (i := 2) (N := some 67) (v := ?_) (a' := ?_) #[true, true, true, true, false, false, false, true, false, false, false, false, false, false, false, false, false, false, false, false, false, false] rfl rfl (take_ofW HT_.out HW_.out (by kernel_rfl)) (fun _ _ _ h => h) (Or.inl ⟨by rfl, ?_⟩) hHeld ?_ ?_
                      rotate_left
                      · rintro w' ⟨s0, s1, s2, s3, s4, s5, s6, s7, s8, s9, s10, s11, s12, s13⟩
                        go_simp
                        with_reducible rfl
                      rotate_left
                      · simp only [Act.put, List.setIfInBounds_toArray, List.set_cons_zero, List.set_cons_succ, i64_w, i32_w]
                        rfl
                      refine pure_ (i := 4) (N := some 69) (v := ?_) (a' := ?_) #[true, true, true, true, true, false, false, true, false, false, false, false, false, false, false, false, false, false, false, false, false, false] rfl rfl (any_of HT_.out (by kernel_rfl)) (fun _ _ _ h => h) (Or.inl ⟨by rfl, ?_⟩) ?_ ?_
                      rotate_left
                      · intro w'
                        go_simp
                        with_reducible rfl
                      rotate_left
                      · simp only [Act.put, List.setIfInBounds_toArray, List.set_cons_zero, List.set_cons_succ, i64_w, i32_w]
                        rfl
                      refine pure_ (i := 5) (N := some 70) (v := ?_) (a' := ?_) #[true, true, true, true, true, true, false, true, false, false, false, false, false, false, false, false, false, false, false, false, false, false] rfl rfl (any_of HT_.out (by kernel_rfl)) (fun _ _ _ h => h) (Or.inl ⟨by rfl, ?_⟩) ?_ ?_
                      rotate_left
                      · intro w'
                        go_simp
                        with_reducible rfl
                      rotate_left
                      · simp only [Act.put, List.setIfInBounds_toArray, List.set_cons_zero, List.set_cons_succ, i64_w, i32_w]
                        rfl
                      refine take_ (i := 6) (N := some 71) (v := ?_) (a' := ?_) #[true, true, true, true, true, true, true, true, false, false, false, false, false, false, false, false, false, false, false, false, false, false] rfl rfl (take_ofW HT_.out HW_.out (by kernel_rfl)) (fun _ _ _ h => h) (Or.inl ⟨by rfl, ?_⟩) hHeld ?_ ?_
                      rotate_left
                      · rintro w' ⟨s0, s1, s2, s3, s4, s5, s6, s7, s8, s9, s10, s11, s12, s13⟩
                        go_simp
                        with_reducible rfl
                      rotate_left
                      · simp only [Act.put, List.setIfInBounds_toArray, List.set_cons_zero, List.set_cons_succ, i64_w, i32_w]
                        rfl
                      refine pure_ (i := 8) (N := some 73) (v := ?_) (a' := ?_) #[true, true, true, true, true, true, true, true, true, false, false, false, false, false, false, false, false, false, false, false, false, false] rfl rfl (any_of HT_.out (by kernel_rfl)) (fun _ _ _ h => h) (Or.inl ⟨by rfl, ?_⟩) ?_ ?_
                      rotate_left
                      · intro w'
                        go_simp
                        with_reducible rfl
                      rotate_left
                      · simp only [Act.put, List.setIfInBounds_toArray, List.set_cons_zero, List.set_cons_succ, i64_w, i32_w]
                        rfl
                      refine pure_ (i := 9) (N := some 74) (v := ?_) (a' := ?_) #[true, true, true, true, true, true, true, true, true, true, false, false, false, false, false, false, false, false, false, false, false, false] rfl rfl (any_of HT_.out (by kernel_rfl)) (fun _ _ _ h => h) (Or.inl ⟨by rfl, ?_⟩) ?_ ?_
                      rotate_left
                      · intro w'
                        go_simp
                        with_reducible rfl
                      rotate_left
                      · simp only [Act.put, List.setIfInBounds_toArray, List.set_cons_zero, List.set_cons_succ, i64_w, i32_w]
                        rfl
                      refine pure_ (i := 10) (N := some 75) (v := ?_) (a' := ?_) #[true, true, true, true, true, true, true, true, true, true, true, false, false, false, false, false, false, false, false, false, false, false] rfl rfl (any_of HT_.out (by kernel_rfl)) (fun _ _ _ h => h) (Or.inl ⟨by rfl, ?_⟩) ?_ ?_
                      rotate_left
                      · intro w'
                        go_simp
                        with_reducible rfl
                      rotate_left
                      · simp only [Act.put, List.setIfInBounds_toArray, List.set_cons_zero, List.set_cons_succ, i64_w, i32_w]
                        rfl
                      refine pure_ (i := 11) (N := some 76) (v := ?_) (a' := ?_) #[true, true, true, true, true, true, true, true, true, true, true, true, false, false, false, false, false, false, false, false, false, false] rfl rfl (any_of HT_.out (by kernel_rfl)) (fun _ _ _ h => h) (Or.inl ⟨by rfl, ?_⟩) ?_ ?_
                      rotate_left
                      · intro w'
                        go_simp
                        with_reducible rfl
                      rotate_left
                      · simp only [Act.put, List.setIfInBounds_toArray, List.set_cons_zero, List.set_cons_succ, i64_w, i32_w]
                        rfl
                      refine pure_ (i := 12) (N := some 77) (v := ?_) (a' := ?_) #[true, true, true, true, true, true, true, true, true, true, true, true, true, false, false, false, false, false, false, false, false, false] rfl rfl (any_of HT_.out (by kernel_rfl)) (fun _ _ _ h => h) (Or.inl ⟨by rfl, ?_⟩) ?_ ?_
                      rotate_left
                      · intro w'
                        go_simp
                        with_reducible rfl
                      rotate_left
                      · simp only [Act.put, List.setIfInBounds_toArray, List.set_cons_zero, List.set_cons_succ, i64_w, i32_w]
                        rfl
                      refine pure_ (i := 14) (N := some 79) (v := ?_) (a' := ?_) #[true, true, true, true, true, true, true, true, true, true, true, true, true, false, true, false, false, false, false, false, false, false] rfl rfl (any_of HT_.out (by kernel_rfl)) (fun _ _ _ h => h) (Or.inl ⟨by rfl, ?_⟩) ?_ ?_
                      rotate_left
                      · intro w'
                        go_simp
                        with_reducible rfl
                      rotate_left
                      · simp only [Act.put, List.setIfInBounds_toArray, List.set_cons_zero, List.set_cons_succ, i64_w, i32_w]
                        rfl
                      refine pure_ (i := 16) (N := some 81) (v := ?_) (a' := ?_) #[true, true, true, true, true, true, true, true, true, true, true, true, true, false, true, false, true, false, false, false, false, false] rfl rfl (any_of HT_.out (by kernel_rfl)) (fun _ _ _ h => h) (Or.inl ⟨by rfl, ?_⟩) ?_ ?_
                      rotate_left
                      · intro w'
                        go_simp
                        with_reducible rfl
                      rotate_left
                      · simp only [Act.put, List.setIfInBounds_toArray, List.set_cons_zero, List.set_cons_succ, i64_w, i32_w]
                        rfl
                      refine take_ (i := 13) (N := some 78) (v := ?_) (a' := ?_) #[true, true, true, true, true, true, true, true, true, true, true, true, true, true, true, false, true, false, false, false, false, false] rfl rfl (take_ofW HT_.out HW_.out (by kernel_rfl)) (fun _ _ _ h => h) (Or.inl ⟨by rfl, ?_⟩) hHeld ?_ ?_
                      rotate_left
                      · rintro w' ⟨s0, s1, s2, s3, s4, s5, s6, s7, s8, s9, s10, s11, s12, s13⟩
                        go_simp
                        with_reducible rfl
                      rotate_left
                      · simp only [Act.put, List.setIfInBounds_toArray, List.set_cons_zero, List.set_cons_succ, i64_w, i32_w]
                        rfl
                      refine take_ (i := 15) (N := some 80) (v := ?_) (a' := ?_) #[true, true, true, true, true, true, true, true, true, true, true, true, true, true, true, true, true, false, false, false, false, false] rfl rfl (take_ofW HT_.out HW_.out (by kernel_rfl)) (fun _ _ _ h => h) (Or.inl ⟨by rfl, ?_⟩) hHeld ?_ ?_
                      rotate_left
                      · rintro w' ⟨s0, s1, s2, s3, s4, s5, s6, s7, s8, s9, s10, s11, s12, s13⟩
                        go_simp
                        with_reducible rfl
                      rotate_left
                      · simp only [Act.put, List.setIfInBounds_toArray, List.set_cons_zero, List.set_cons_succ, i64_w, i32_w]
                        rfl
                      refine pure_ (i := 17) (N := some 82) (v := ?_) (a' := ?_) #[true, true, true, true, true, true, true, true, true, true, true, true, true, true, true, true, true, true, false, false, false, false] rfl rfl (any_of HT_.out (by kernel_rfl)) (fun _ _ _ h => h) (Or.inl ⟨by rfl, ?_⟩) ?_ ?_
                      rotate_left
                      · intro w'
                        go_simp
                        with_reducible rfl
                      rotate_left
                      · simp only [Act.put, List.setIfInBounds_toArray, List.set_cons_zero, List.set_cons_succ, i64_w, i32_w]
                        rfl
                      refine take_ (i := 18) (N := some 83) (v := ?_) (a' := ?_) #[true, true, true, true, true, true, true, true, true, true, true, true, true, true, true, true, true, true, true, false, false, false] rfl rfl (take_ofW HT_.out HW_.out (by kernel_rfl)) (fun _ _ _ h => h) (Or.inl ⟨by rfl, ?_⟩) hHeld ?_ ?_
                      rotate_left
                      · rintro w' ⟨s0, s1, s2, s3, s4, s5, s6, s7, s8, s9, s10, s11, s12, s13⟩
                        go_simp
                        with_reducible rfl
                      rotate_left
                      · simp only [Act.put, List.setIfInBounds_toArray, List.set_cons_zero, List.set_cons_succ, i64_w, i32_w]
                        rfl
                      refine pure_ (i := 19) (N := some 84) (v := ?_) (a' := ?_) #[true, true, true, true, true, true, true, true, true, true, true, true, true, true, true, true, true, true, true, true, false, false] rfl rfl (any_of HT_.out (by kernel_rfl)) (fun _ _ _ h => h) (Or.inl ⟨by rfl, ?_⟩) ?_ ?_
                      rotate_left
                      · intro w'
                        go_simp
                        with_reducible rfl
                      rotate_left
                      · simp only [Act.put, List.setIfInBounds_toArray, List.set_cons_zero, List.set_cons_succ, i64_w, i32_w]
                        rfl
                      refine pure_ (i := 20) (N := some 85) (v := ?_) (a' := ?_) #[true, true, true, true, true, true, true, true, true, true, true, true, true, true, true, true, true, true, true, true, true, false] rfl rfl (any_of HT_.out (by kernel_rfl)) (fun _ _ _ h => h) (Or.inl ⟨by rfl, ?_⟩) ?_ ?_
                      rotate_left
                      · intro w'
                        go_simp
                        with_reducible rfl
                      rotate_left
                      · simp only [Act.put, List.setIfInBounds_toArray, List.set_cons_zero, List.set_cons_succ, i64_w, i32_w]
                        rfl
                      refine pure_ (i := 21) (N := some 86) (v := ?_) (a' := ?_) #[true, true, true, true, true, true, true, true, true, true, true, true, true, true, true, true, true, true, true, true, true, true] rfl rfl (any_of HT_.out (by kernel_rfl)) (fun _ _ _ h => h) (Or.inl ⟨by rfl, ?_⟩) ?_ ?_
                      rotate_left
                      · intro w'
                        go_simp
                        with_reducible rfl
                      rotate_left
                      · simp only [Act.put, List.setIfInBounds_toArray, List.set_cons_zero, List.set_cons_succ, i64_w, i32_w]
                        rfl
                      refine done_ (done_of HT_.out (by kernel_rfl)) ?_
                      try go_wp2
                      go_meet
                      case rel => exact ⟨_, ((!(t286 == ((rd_T29 l0_1 x12_2).f0)) || (!(t287 == ((rd_T29 l0_1 x12_2).f1)) || (!(t288 == ((rd_T29 l0_1 x12_2).f2)) || (!(t289 == ((rd_T29 l0_1 x12_2).f3))))))), (by first | rfl | (simp; done) | (simp [*]; done)), H', ⟨by have := HJ5.out; have := HK2.out; first | omega | exact Nat.le_refl _⟩, ⟨by (with_reducible repeat (first | apply Kd.R_alloc | apply Kd.R_drewN | apply Kd.R_drew)); exact HO_10.out⟩, ⟨by (with_reducible repeat (first | apply Kd.V_alloc | apply Kd.V_drewN | apply Kd.V_drew)); exact HO_269000.out⟩, ⟨by (with_reducible repeat (first | apply Kd.V_alloc | apply Kd.V_drewN | apply Kd.V_drew)); exact HO_269001.out⟩, ⟨by (with_reducible repeat (first | refine blk_drewN ?_ _ | refine blk_drew ?_ | refine blk_alloc ?_ _)); exact BK256.out⟩, ⟨by (with_reducible repeat (first | refine blk_drewN ?_ _ | refine blk_drew ?_ | refine blk_alloc ?_ _)); exact BK268.out⟩, ⟨by (with_reducible repeat (first | refine blk_drewN ?_ _ | refine blk_drew ?_ | refine blk_alloc ?_ _)); exact BK291.out⟩, ⟨by repeat (first | (with_reducible first | exact HB.out | apply below_alloc | apply pw_below_drewN | apply below_drew1 | refine below_set ?_ GE256.out | refine below_set ?_ GE268.out | refine below_set ?_ GE291.out) | exact HB.out)⟩⟩
                    · replace c40 := Bool.eq_false_iff.mpr c40
                      subst c40
                      have H1 : (interchangelaw13_PoolDowns.j2 k2 a1 a2 true t265 x11_2 x12_2 false l0_0 l0_1 t259 t262) = some r := by rw [if_neg (show ¬ (false = true) by decide)] at H; exact H
                      clear H
                      have H := H1
                      clear H1
                      have H' := Aside0.mk H
                      clear H
                      try go_wp2
                      have n0_ : Aside0 (Kd.R (Kd.int .i64) 3 ((((w32.setCell ⟨gb291, 0, none⟩ (.int .i64 t286)).setCell ⟨gb291, 1, none⟩ (.int .i64 t287)).setCell ⟨gb291, 2, none⟩ (.int .i64 t288)).setCell ⟨gb291, 3, none⟩ (.int .i64 t289)) w.heap.size (fun _ => True) v266 t265) := ⟨by (with_reducible repeat (first | apply Kd.R_alloc | apply Kd.R_drewN | apply Kd.R_drew)); exact Kd.R_mono (Kd.R_far (p := ⟨gb291, 3, none⟩) (Kd.R_far (p := ⟨gb291, 2, none⟩) (Kd.R_far (p := ⟨gb291, 1, none⟩) (Kd.R_far (p := ⟨gb291, 0, none⟩) (Kd.R_types HO_10.out BK291.out (by decide)) (fun _ hk => hk.2) (.int .i64 t286)) (fun _ hk => hk.2) (.int .i64 t287)) (fun _ hk => hk.2) (.int .i64 t288)) (fun _ hk => hk.2) (.int .i64 t289)) (fun _ hk => trivial)⟩
                      have n1_ : Aside0 (Kd.V (Kd.int .i64) 3 ((((w32.setCell ⟨gb291, 0, none⟩ (.int .i64 t286)).setCell ⟨gb291, 1, none⟩ (.int .i64 t287)).setCell ⟨gb291, 2, none⟩ (.int .i64 t288)).setCell ⟨gb291, 3, none⟩ (.int .i64 t289)) w.heap.size (fun k_ => some k_ ≠ (v266 : Value).ownBlock ∧ k_ ≠ gb256 ∧ k_ ≠ gb268 ∧ k_ ≠ gb291) (.slice Ao19 t259.length co19) t259) := ⟨by (with_reducible repeat (first | apply Kd.V_alloc | apply Kd.V_drewN | apply Kd.V_drew)); exact Kd.V_mono (Kd.V_far (p := ⟨gb291, 3, none⟩) (Kd.V_far (p := ⟨gb291, 2, none⟩) (Kd.V_far (p := ⟨gb291, 1, none⟩) (Kd.V_far (p := ⟨gb291, 0, none⟩) (Kd.V_mono HO_269000.out (fun k_ hk => (⟨hk, hk.2.2.2⟩ : _ ∧ k_ ≠ gb291))) (fun _ hk => hk.2) (.int .i64 t286)) (fun _ hk => hk.2) (.int .i64 t287)) (fun _ hk => hk.2) (.int .i64 t288)) (fun _ hk => hk.2) (.int .i64 t289)) (fun _ hk => ⟨hk.1.1, ⟨hk.1.2.1, ⟨hk.1.2.2.1, hk.1.2.2.2⟩⟩⟩)⟩
                      have n2_ : Aside0 (Kd.V k29 29 ((((w32.setCell ⟨gb291, 0, none⟩ (.int .i64 t286)).setCell ⟨gb291, 1, none⟩ (.int .i64 t287)).setCell ⟨gb291, 2, none⟩ (.int .i64 t288)).setCell ⟨gb291, 3, none⟩ (.int .i64 t289)) w.heap.size (fun k_ => some k_ ≠ (v266 : Value).ownBlock ∧ k_ ≠ gb256 ∧ k_ ≠ gb268 ∧ k_ ≠ gb291) (.slice Ao22 t262.length co22) t262) := ⟨by (with_reducible repeat (first | apply Kd.V_alloc | apply Kd.V_drewN | apply Kd.V_drew)); exact Kd.V_mono (Kd.V_far (p := ⟨gb291, 3, none⟩) (Kd.V_far (p := ⟨gb291, 2, none⟩) (Kd.V_far (p := ⟨gb291, 1, none⟩) (Kd.V_far (p := ⟨gb291, 0, none⟩) (Kd.V_mono HO_269001.out (fun k_ hk => (⟨hk, hk.2.2.2⟩ : _ ∧ k_ ≠ gb291))) (fun _ hk => hk.2) (.int .i64 t286)) (fun _ hk => hk.2) (.int .i64 t287)) (fun _ hk => hk.2) (.int .i64 t288)) (fun _ hk => hk.2) (.int .i64 t289)) (fun _ hk => ⟨hk.1.1, ⟨hk.1.2.1, ⟨hk.1.2.2.1, hk.1.2.2.2⟩⟩⟩)⟩
                      have n3_ : Aside0 (((((w32.setCell ⟨gb291, 0, none⟩ (.int .i64 t286)).setCell ⟨gb291, 1, none⟩ (.int .i64 t287)).setCell ⟨gb291, 2, none⟩ (.int .i64 t288)).setCell ⟨gb291, 3, none⟩ (.int .i64 t289)).heap[gb256]? = some (.cells #[.slice A0_0 l0_0.length c0_0, .slice (some ad284) l0_1.length c0_1] 25 (0, 0))) := ⟨by (with_reducible repeat (first | refine blk_drewN ?_ _ | refine blk_drew ?_ | refine blk_alloc ?_ _)); refine blk_far ?_ NB256_291.out _; (with_reducible repeat (first | refine blk_drewN ?_ _ | refine blk_drew ?_ | refine blk_alloc ?_ _)); refine blk_far ?_ NB256_291.out _; (with_reducible repeat (first | refine blk_drewN ?_ _ | refine blk_drew ?_ | refine blk_alloc ?_ _)); refine blk_far ?_ NB256_291.out _; (with_reducible repeat (first | refine blk_drewN ?_ _ | refine blk_drew ?_ | refine blk_alloc ?_ _)); refine blk_far ?_ NB256_291.out _; (with_reducible repeat (first | refine blk_drewN ?_ _ | refine blk_drew ?_ | refine blk_alloc ?_ _)); exact BK256.out⟩
                      have n4_ : Aside0 (((((w32.setCell ⟨gb291, 0, none⟩ (.int .i64 t286)).setCell ⟨gb291, 1, none⟩ (.int .i64 t287)).setCell ⟨gb291, 2, none⟩ (.int .i64 t288)).setCell ⟨gb291, 3, none⟩ (.int .i64 t289)).heap[gb268]? = some (.cells #[.slice Ao19 t259.length co19, .slice Ao22 t262.length co22] 25 (0, 0))) := ⟨by (with_reducible repeat (first | refine blk_drewN ?_ _ | refine blk_drew ?_ | refine blk_alloc ?_ _)); refine blk_far ?_ NB268_291.out _; (with_reducible repeat (first | refine blk_drewN ?_ _ | refine blk_drew ?_ | refine blk_alloc ?_ _)); refine blk_far ?_ NB268_291.out _; (with_reducible repeat (first | refine blk_drewN ?_ _ | refine blk_drew ?_ | refine blk_alloc ?_ _)); refine blk_far ?_ NB268_291.out _; (with_reducible repeat (first | refine blk_drewN ?_ _ | refine blk_drew ?_ | refine blk_alloc ?_ _)); refine blk_far ?_ NB268_291.out _; (with_reducible repeat (first | refine blk_drewN ?_ _ | refine blk_drew ?_ | refine blk_alloc ?_ _)); exact BK268.out⟩
                      have n5_ : Aside0 (((((w32.setCell ⟨gb291, 0, none⟩ (.int .i64 t286)).setCell ⟨gb291, 1, none⟩ (.int .i64 t287)).setCell ⟨gb291, 2, none⟩ (.int .i64 t288)).setCell ⟨gb291, 3, none⟩ (.int .i64 t289)).heap[gb291]? = some (.cells #[.int .i64 t286, .int .i64 t287, .int .i64 t288, .int .i64 t289] 29 (0, 0))) := ⟨by (with_reducible repeat (first | refine blk_drewN ?_ _ | refine blk_drew ?_ | refine blk_alloc ?_ _)); refine blk_put (cs := #[.int .i64 t286, .int .i64 t287, .int .i64 t288, .int .i64 0]) ?_ 3 _ rfl; (with_reducible repeat (first | refine blk_drewN ?_ _ | refine blk_drew ?_ | refine blk_alloc ?_ _)); refine blk_put (cs := #[.int .i64 t286, .int .i64 t287, .int .i64 0, .int .i64 0]) ?_ 2 _ rfl; (with_reducible repeat (first | refine blk_drewN ?_ _ | refine blk_drew ?_ | refine blk_alloc ?_ _)); refine blk_put (cs := #[.int .i64 t286, .int .i64 0, .int .i64 0, .int .i64 0]) ?_ 1 _ rfl; (with_reducible repeat (first | refine blk_drewN ?_ _ | refine blk_drew ?_ | refine blk_alloc ?_ _)); refine blk_put (cs := #[.int .i64 0, .int .i64 0, .int .i64 0, .int .i64 0]) ?_ 0 _ rfl; (with_reducible repeat (first | refine blk_drewN ?_ _ | refine blk_drew ?_ | refine blk_alloc ?_ _)); exact BK291.out⟩
                      have n6_ : Aside0 (Below w.heap.size w ((((w32.setCell ⟨gb291, 0, none⟩ (.int .i64 t286)).setCell ⟨gb291, 1, none⟩ (.int .i64 t287)).setCell ⟨gb291, 2, none⟩ (.int .i64 t288)).setCell ⟨gb291, 3, none⟩ (.int .i64 t289))) := ⟨by repeat (first | (with_reducible first | exact HB.out | apply below_alloc | apply pw_below_drewN | apply below_drew1 | refine below_set ?_ GE256.out | refine below_set ?_ GE268.out | refine below_set ?_ GE291.out) | exact HB.out)⟩
                      (try clear HO_10)
                      (try clear HO_269000)
                      (try clear HO_269001)
                      (try clear BK256)
                      (try clear BK268)
                      (try clear BK291)
                      (try clear HB)
                      generalize ((((w32.setCell ⟨gb291, 0, none⟩ (.int .i64 t286)).setCell ⟨gb291, 1, none⟩ (.int .i64 t287)).setCell ⟨gb291, 2, none⟩ (.int .i64 t288)).setCell ⟨gb291, 3, none⟩ (.int .i64 t289)) = w43 at n0_ n1_ n2_ n3_ n4_ n5_ n6_ ⊢
                      have HO_10 := n0_
                      have HO_269000 := n1_
                      have HO_269001 := n2_
                      have BK256 := n3_
                      have BK268 := n4_
                      have BK291 := n5_
                      have HB := n6_
                      clear n0_ n1_ n2_ n3_ n4_ n5_ n6_
                      have n0_ := Aside0.mk (Kd.R_drew HO_10.out)
                      have n1_ := Aside0.mk (Kd.V_drew HO_269000.out)
                      have n2_ := Aside0.mk (Kd.V_drew HO_269001.out)
                      have n3_ := Aside0.mk (blk_drew BK256.out)
                      have n4_ := Aside0.mk (blk_drew BK268.out)
                      have n5_ := Aside0.mk (blk_drew BK291.out)
                      have n6_ := Aside0.mk (below_drew1 HB.out)
                      clear HO_10
                      clear HO_269000
                      clear HO_269001
                      clear BK256
                      clear BK268
                      clear BK291
                      clear HB
                      have HO_10 := n0_
                      have HO_269000 := n1_
                      have HO_269001 := n2_
                      have BK256 := n3_
                      have BK268 := n4_
                      have BK291 := n5_
                      have HB := n6_
                      clear n0_ n1_ n2_ n3_ n4_ n5_ n6_
                      have p292 : 0 ≤ (x12_2 : Int) := of_decide_eq_true (by first | (with_reducible assumption) | assumption)
                      have q292 : x12_2 < (l0_1.length : Int) := of_decide_eq_true (by first | (with_reducible assumption) | assumption)
                      obtain ⟨ad292, e292, hx292_0, hx292_1, hx292_2, hx292_3⟩ := at_T29 HR0_1.out x12_2 p292 q292
                      have hw292_3 := hx292_3
                      have hw292_2 := hx292_2
                      have hw292_1 := hx292_1
                      have hw292_0 := hx292_0
                      obtain rfl : ad284 = ad292 := (by injection e292)
                      replace hx292_0 := (HB.out.cell (World.block_lt_of_cell? w _ hx292_0)).trans hx292_0
                      replace hx292_1 := (HB.out.cell (World.block_lt_of_cell? w _ hx292_1)).trans hx292_1
                      replace hx292_2 := (HB.out.cell (World.block_lt_of_cell? w _ hx292_2)).trans hx292_2
                      replace hx292_3 := (HB.out.cell (World.block_lt_of_cell? w _ hx292_3)).trans hx292_3
                      replace p292 := eq_true p292
                      replace q292 := eq_true q292
                      refine start_ (n := 22) (S := fun w' => w'.cell? ⟨gb256, 0, none⟩ = some (.slice A0_0 l0_0.length c0_0) ∧ w'.cell? ⟨gb256, 1, none⟩ = some (.slice (some ad284) l0_1.length c0_1) ∧ w'.cell? (ad284.add ((x12_2).toNat * 4)) = some (.int .i64 ((rd_T29 l0_1 x12_2).f0)) ∧ w'.cell? ⟨(ad284.add ((x12_2).toNat * 4)).block, (ad284.add ((x12_2).toNat * 4)).off + 1, none⟩ = some (.int .i64 ((rd_T29 l0_1 x12_2).f1)) ∧ w'.cell? ⟨(ad284.add ((x12_2).toNat * 4)).block, (ad284.add ((x12_2).toNat * 4)).off + 2, none⟩ = some (.int .i64 ((rd_T29 l0_1 x12_2).f2)) ∧ w'.cell? ⟨(ad284.add ((x12_2).toNat * 4)).block, (ad284.add ((x12_2).toNat * 4)).off + 3, none⟩ = some (.int .i64 ((rd_T29 l0_1 x12_2).f3))) (ds := []) #[false, false, false, false, false, false, false, false, false, false, false, false, false, false, false, false, false, false, false, false, false, false] (by kernel_rfl) rfl rfl ⟨(blk_cell BK256.out 0).trans rfl, (blk_cell BK256.out 1).trans rfl, ((HB.out.cell (World.block_lt_of_cell? w _ hw292_0)).trans hw292_0), ((HB.out.cell (World.block_lt_of_cell? w _ hw292_1)).trans hw292_1), ((HB.out.cell (World.block_lt_of_cell? w _ hw292_2)).trans hw292_2), ((HB.out.cell (World.block_lt_of_cell? w _ hw292_3)).trans hw292_3)⟩ (fun hHeld => ?_); refine with_tabW interchangelaw13_PoolDowns.tab11 interchangelaw13_PoolDowns.bits11 (fun HT_ HW_ => ?_)
                      generalize w43.drew = w44 at HO_10 HO_269000 HO_269001 BK256 BK268 BK291 HB hx292_0 hx292_1 hx292_2 hx292_3 hHeld ⊢
                      refine pure_ (i := 0) (N := some 65) (v := ?_) (a' := ?_) #[true, false, false, false, false, false, false, false, false, false, false, false, false, false, false, false, false, false, false, false, false, false] rfl rfl (any_of HT_.out (by kernel_rfl)) (fun _ _ _ h => h) (Or.inl ⟨by rfl, ?_⟩) ?_ ?_
                      rotate_left
                      · intro w'
                        go_simp
                        with_reducible rfl
                      rotate_left
                      · simp only [Act.put, List.setIfInBounds_toArray, List.set_cons_zero, List.set_cons_succ, i64_w, i32_w]
                        rfl
                      refine pure_ (i := 1) (N := some 66) (v := ?_) (a' := ?_) #[true, true, false, false, false, false, false, false, false, false, false, false, false, false, false, false, false, false, false, false, false, false] rfl rfl (any_of HT_.out (by kernel_rfl)) (fun _ _ _ h => h) (Or.inl ⟨by rfl, ?_⟩) ?_ ?_
                      rotate_left
                      · intro w'
                        go_simp
                        with_reducible rfl
                      rotate_left
                      · simp only [Act.put, List.setIfInBounds_toArray, List.set_cons_zero, List.set_cons_succ, i64_w, i32_w]
                        rfl
                      refine pure_ (i := 3) (N := some 68) (v := ?_) (a' := ?_) #[true, true, false, true, false, false, false, false, false, false, false, false, false, false, false, false, false, false, false, false, false, false] rfl rfl (any_of HT_.out (by kernel_rfl)) (fun _ _ _ h => h) (Or.inl ⟨by rfl, ?_⟩) ?_ ?_
                      rotate_left
                      · intro w'
                        go_simp
                        with_reducible rfl
                      rotate_left
                      · simp only [Act.put, List.setIfInBounds_toArray, List.set_cons_zero, List.set_cons_succ, i64_w, i32_w]
                        rfl
                      refine pure_ (i := 7) (N := some 72) (v := ?_) (a' := ?_) #[true, true, false, true, false, false, false, true, false, false, false, false, false, false, false, false, false, false, false, false, false, false] rfl rfl (any_of HT_.out (by kernel_rfl)) (fun _ _ _ h => h) (Or.inl ⟨by rfl, ?_⟩) ?_ ?_
                      rotate_left
                      · intro w'
                        go_simp
                        with_reducible rfl
                      rotate_left
                      · simp only [Act.put, List.setIfInBounds_toArray, List.set_cons_zero, List.set_cons_succ, i64_w, i32_w]
                        rfl
                      refine take_ (i := 2) (N := some 67) (v := ?_) (a' := ?_) #[true, true, true, true, false, false, false, true, false, false, false, false, false, false, false, false, false, false, false, false, false, false] rfl rfl (take_ofW HT_.out HW_.out (by kernel_rfl)) (fun _ _ _ h => h) (Or.inl ⟨by rfl, ?_⟩) hHeld ?_ ?_
                      rotate_left
                      · rintro w' ⟨s0, s1, s2, s3, s4, s5⟩
                        go_simp
                        with_reducible rfl
                      rotate_left
                      · simp only [Act.put, List.setIfInBounds_toArray, List.set_cons_zero, List.set_cons_succ, i64_w, i32_w]
                        rfl
                      refine pure_ (i := 4) (N := some 69) (v := ?_) (a' := ?_) #[true, true, true, true, true, false, false, true, false, false, false, false, false, false, false, false, false, false, false, false, false, false] rfl rfl (any_of HT_.out (by kernel_rfl)) (fun _ _ _ h => h) (Or.inl ⟨by rfl, ?_⟩) ?_ ?_
                      rotate_left
                      · intro w'
                        go_simp
                        with_reducible rfl
                      rotate_left
                      · simp only [Act.put, List.setIfInBounds_toArray, List.set_cons_zero, List.set_cons_succ, i64_w, i32_w]
                        rfl
                      refine pure_ (i := 5) (N := some 70) (v := ?_) (a' := ?_) #[true, true, true, true, true, true, false, true, false, false, false, false, false, false, false, false, false, false, false, false, false, false] rfl rfl (any_of HT_.out (by kernel_rfl)) (fun _ _ _ h => h) (Or.inl ⟨by rfl, ?_⟩) ?_ ?_
                      rotate_left
                      · intro w'
                        go_simp
                        with_reducible rfl
                      rotate_left
                      · simp only [Act.put, List.setIfInBounds_toArray, List.set_cons_zero, List.set_cons_succ, i64_w, i32_w]
                        rfl
                      refine take_ (i := 6) (N := some 71) (v := ?_) (a' := ?_) #[true, true, true, true, true, true, true, true, false, false, false, false, false, false, false, false, false, false, false, false, false, false] rfl rfl (take_ofW HT_.out HW_.out (by kernel_rfl)) (fun _ _ _ h => h) (Or.inl ⟨by rfl, ?_⟩) hHeld ?_ ?_
                      rotate_left
                      · rintro w' ⟨s0, s1, s2, s3, s4, s5⟩
                        go_simp
                        with_reducible rfl
                      rotate_left
                      · simp only [Act.put, List.setIfInBounds_toArray, List.set_cons_zero, List.set_cons_succ, i64_w, i32_w]
                        rfl
                      refine pure_ (i := 8) (N := some 73) (v := ?_) (a' := ?_) #[true, true, true, true, true, true, true, true, true, false, false, false, false, false, false, false, false, false, false, false, false, false] rfl rfl (any_of HT_.out (by kernel_rfl)) (fun _ _ _ h => h) (Or.inl ⟨by rfl, ?_⟩) ?_ ?_
                      rotate_left
                      · intro w'
                        go_simp
                        with_reducible rfl
                      rotate_left
                      · simp only [Act.put, List.setIfInBounds_toArray, List.set_cons_zero, List.set_cons_succ, i64_w, i32_w]
                        rfl
                      refine pure_ (i := 9) (N := some 74) (v := ?_) (a' := ?_) #[true, true, true, true, true, true, true, true, true, true, false, false, false, false, false, false, false, false, false, false, false, false] rfl rfl (any_of HT_.out (by kernel_rfl)) (fun _ _ _ h => h) (Or.inl ⟨by rfl, ?_⟩) ?_ ?_
                      rotate_left
                      · intro w'
                        go_simp
                        with_reducible rfl
                      rotate_left
                      · simp only [Act.put, List.setIfInBounds_toArray, List.set_cons_zero, List.set_cons_succ, i64_w, i32_w]
                        rfl
                      refine pure_ (i := 10) (N := some 75) (v := ?_) (a' := ?_) #[true, true, true, true, true, true, true, true, true, true, true, false, false, false, false, false, false, false, false, false, false, false] rfl rfl (any_of HT_.out (by kernel_rfl)) (fun _ _ _ h => h) (Or.inl ⟨by rfl, ?_⟩) ?_ ?_
                      rotate_left
                      · intro w'
                        go_simp
                        with_reducible rfl
                      rotate_left
                      · simp only [Act.put, List.setIfInBounds_toArray, List.set_cons_zero, List.set_cons_succ, i64_w, i32_w]
                        rfl
                      refine pure_ (i := 11) (N := some 76) (v := ?_) (a' := ?_) #[true, true, true, true, true, true, true, true, true, true, true, true, false, false, false, false, false, false, false, false, false, false] rfl rfl (any_of HT_.out (by kernel_rfl)) (fun _ _ _ h => h) (Or.inl ⟨by rfl, ?_⟩) ?_ ?_
                      rotate_left
                      · intro w'
                        go_simp
                        with_reducible rfl
                      rotate_left
                      · simp only [Act.put, List.setIfInBounds_toArray, List.set_cons_zero, List.set_cons_succ, i64_w, i32_w]
                        rfl
                      refine pure_ (i := 12) (N := some 77) (v := ?_) (a' := ?_) #[true, true, true, true, true, true, true, true, true, true, true, true, true, false, false, false, false, false, false, false, false, false] rfl rfl (any_of HT_.out (by kernel_rfl)) (fun _ _ _ h => h) (Or.inl ⟨by rfl, ?_⟩) ?_ ?_
                      rotate_left
                      · intro w'
                        go_simp
                        with_reducible rfl
                      rotate_left
                      · simp only [Act.put, List.setIfInBounds_toArray, List.set_cons_zero, List.set_cons_succ, i64_w, i32_w]
                        rfl
                      refine pure_ (i := 13) (N := some 78) (v := undef) (a' := ?_) #[true, true, true, true, true, true, true, true, true, true, true, true, true, true, false, false, false, false, false, false, false, false] rfl rfl (any_of HT_.out (by kernel_rfl)) (fun _ _ _ h => h) (Or.inr ⟨by rfl, rfl⟩) ?_ ?_
                      rotate_left
                      · simp only [Act.put, List.setIfInBounds_toArray, List.set_cons_zero, List.set_cons_succ, i64_w, i32_w]
                        rfl
                      refine pure_ (i := 14) (N := some 79) (v := undef) (a' := ?_) #[true, true, true, true, true, true, true, true, true, true, true, true, true, true, true, false, false, false, false, false, false, false] rfl rfl (any_of HT_.out (by kernel_rfl)) (fun _ _ _ h => h) (Or.inr ⟨by rfl, rfl⟩) ?_ ?_
                      rotate_left
                      · simp only [Act.put, List.setIfInBounds_toArray, List.set_cons_zero, List.set_cons_succ, i64_w, i32_w]
                        rfl
                      refine pure_ (i := 15) (N := some 80) (v := undef) (a' := ?_) #[true, true, true, true, true, true, true, true, true, true, true, true, true, true, true, true, false, false, false, false, false, false] rfl rfl (any_of HT_.out (by kernel_rfl)) (fun _ _ _ h => h) (Or.inr ⟨by rfl, rfl⟩) ?_ ?_
                      rotate_left
                      · simp only [Act.put, List.setIfInBounds_toArray, List.set_cons_zero, List.set_cons_succ, i64_w, i32_w]
                        rfl
                      refine pure_ (i := 16) (N := some 81) (v := undef) (a' := ?_) #[true, true, true, true, true, true, true, true, true, true, true, true, true, true, true, true, true, false, false, false, false, false] rfl rfl (any_of HT_.out (by kernel_rfl)) (fun _ _ _ h => h) (Or.inr ⟨by rfl, rfl⟩) ?_ ?_
                      rotate_left
                      · simp only [Act.put, List.setIfInBounds_toArray, List.set_cons_zero, List.set_cons_succ, i64_w, i32_w]
                        rfl
                      refine pure_ (i := 17) (N := some 82) (v := undef) (a' := ?_) #[true, true, true, true, true, true, true, true, true, true, true, true, true, true, true, true, true, true, false, false, false, false] rfl rfl (any_of HT_.out (by kernel_rfl)) (fun _ _ _ h => h) (Or.inr ⟨by rfl, rfl⟩) ?_ ?_
                      rotate_left
                      · simp only [Act.put, List.setIfInBounds_toArray, List.set_cons_zero, List.set_cons_succ, i64_w, i32_w]
                        rfl
                      refine pure_ (i := 18) (N := some 83) (v := undef) (a' := ?_) #[true, true, true, true, true, true, true, true, true, true, true, true, true, true, true, true, true, true, true, false, false, false] rfl rfl (any_of HT_.out (by kernel_rfl)) (fun _ _ _ h => h) (Or.inr ⟨by rfl, rfl⟩) ?_ ?_
                      rotate_left
                      · simp only [Act.put, List.setIfInBounds_toArray, List.set_cons_zero, List.set_cons_succ, i64_w, i32_w]
                        rfl
                      refine pure_ (i := 19) (N := some 84) (v := undef) (a' := ?_) #[true, true, true, true, true, true, true, true, true, true, true, true, true, true, true, true, true, true, true, true, false, false] rfl rfl (any_of HT_.out (by kernel_rfl)) (fun _ _ _ h => h) (Or.inr ⟨by rfl, rfl⟩) ?_ ?_
                      rotate_left
                      · simp only [Act.put, List.setIfInBounds_toArray, List.set_cons_zero, List.set_cons_succ, i64_w, i32_w]
                        rfl
                      refine pure_ (i := 20) (N := some 85) (v := ?_) (a' := ?_) #[true, true, true, true, true, true, true, true, true, true, true, true, true, true, true, true, true, true, true, true, true, false] rfl rfl (any_of HT_.out (by kernel_rfl)) (fun _ _ _ h => h) (Or.inl ⟨by rfl, ?_⟩) ?_ ?_
                      rotate_left
                      · intro w'
                        go_simp
                        with_reducible rfl
                      rotate_left
                      · simp only [Act.put, List.setIfInBounds_toArray, List.set_cons_zero, List.set_cons_succ, i64_w, i32_w]
                        rfl
                      refine pure_ (i := 21) (N := some 86) (v := ?_) (a' := ?_) #[true, true, true, true, true, true, true, true, true, true, true, true, true, true, true, true, true, true, true, true, true, true] rfl rfl (any_of HT_.out (by kernel_rfl)) (fun _ _ _ h => h) (Or.inl ⟨by rfl, ?_⟩) ?_ ?_
                      rotate_left
                      · intro w'
                        go_simp
                        with_reducible rfl
                      rotate_left
                      · simp only [Act.put, List.setIfInBounds_toArray, List.set_cons_zero, List.set_cons_succ, i64_w, i32_w]
                        rfl
                      refine done_ (done_of HT_.out (by kernel_rfl)) ?_
                      try go_wp2
                      go_meet
                      case rel => exact ⟨_, (false), (by first | rfl | (simp; done) | (simp [*]; done)), H', ⟨by have := HJ5.out; have := HK2.out; first | omega | exact Nat.le_refl _⟩, ⟨by (with_reducible repeat (first | apply Kd.R_alloc | apply Kd.R_drewN | apply Kd.R_drew)); exact HO_10.out⟩, ⟨by (with_reducible repeat (first | apply Kd.V_alloc | apply Kd.V_drewN | apply Kd.V_drew)); exact HO_269000.out⟩, ⟨by (with_reducible repeat (first | apply Kd.V_alloc | apply Kd.V_drewN | apply Kd.V_drew)); exact HO_269001.out⟩, ⟨by (with_reducible repeat (first | refine blk_drewN ?_ _ | refine blk_drew ?_ | refine blk_alloc ?_ _)); exact BK256.out⟩, ⟨by (with_reducible repeat (first | refine blk_drewN ?_ _ | refine blk_drew ?_ | refine blk_alloc ?_ _)); exact BK268.out⟩, ⟨by (with_reducible repeat (first | refine blk_drewN ?_ _ | refine blk_drew ?_ | refine blk_alloc ?_ _)); exact BK291.out⟩, ⟨by repeat (first | (with_reducible first | exact HB.out | apply below_alloc | apply pw_below_drewN | apply below_drew1 | refine below_set ?_ GE256.out | refine below_set ?_ GE268.out | refine below_set ?_ GE291.out) | exact HB.out)⟩⟩
                case rest =>
                  clear HC26
                  try clear p2
                  try clear q2
                  try clear hx2
                  try clear c3
                  try clear c4
                  try clear p29
                  try clear q29
                  try clear hx29
                  try clear c37
                  try clear c37b0
                  try clear c37b1
                  try clear c37b2
                  try clear c40
                  try clear hx292_0
                  try clear hx292_1
                  try clear hx292_2
                  try clear hx292_3
                  try clear hx293_0
                  try clear hx293_1
                  try clear hx293_2
                  try clear hx293_3
                  try clear p292
                  try clear p293
                  try clear q292
                  try clear q293
                  obtain ⟨kq, x86_25, rfl, HA, HJ25, HO_10, HO_269000, HO_269001, BK256, BK268, BK291, HB⟩ := hcut
                  cases kq with
                  | zero => exact absurd HA.out (by simp [interchangelaw13_PoolDowns.j2])
                  | succ kj25 =>
                    have H := HA.out
                    clear HA
                    simp only [interchangelaw13_PoolDowns.j2] at H
                    by_cases c45 : x86_25 = true
                    · subst c45
                      have H1 : (some false) = some r := by rw [if_pos rfl] at H; exact H
                      clear H
                      have H := H1
                      clear H1
                      exact absurd ((Option.some.inj H).trans hT_.out) (by decide)
                    · replace c45 := Bool.eq_false_iff.mpr c45
                      subst c45
                      have H1 : (if 0 ≤ x12_2 then (if x12_2 < (l0_1.length : Int) then (if ((rd_T29 l0_1 x12_2).f0) = a1 then (if ((rd_T29 l0_1 x12_2).f3) = 0 then (interchangelaw13_PoolDowns.l0 kj25 a1 a2 true t265 x11_2 (wrap64 (x12_2 + 1)) l0_0 l0_1 t259 t262) else (interchangelaw13_PoolDowns.l0 kj25 a1 a2 true t265 (wrap64 (x11_2 + 1)) (wrap64 (x12_2 + 1)) l0_0 l0_1 t259 t262)) else (interchangelaw13_PoolDowns.l0 kj25 a1 a2 true t265 x11_2 (wrap64 (x12_2 + 1)) l0_0 l0_1 t259 t262)) else (none)) else (none)) = some r := by rw [if_neg (show ¬ (false = true) by decide)] at H; exact H
                      clear H
                      have H := H1
                      clear H1
                      by_cases c46 : 0 ≤ x12_2
                      · rw [if_pos c46] at H
                        have c46b0 : decide (0 ≤ x12_2) = true := decide_eq_true c46
                        clear c46
                        by_cases c47 : x12_2 < (l0_1.length : Int)
                        · rw [if_pos c47] at H
                          have c47b0 : decide (x12_2 < (l0_1.length : Int)) = true := decide_eq_true c47
                          clear c47
                          by_cases c48 : ((rd_T29 l0_1 x12_2).f0) = a1
                          · rw [if_pos c48] at H
                            have c48b0 : (((rd_T29 l0_1 x12_2).f0) == a1) = true := beq_iff_eq.mpr c48
                            have c48b1 : (((rd_T29 l0_1 x12_2).f0) != a1) = false := bne_eq_false_iff_eq.mpr c48
                            clear c48
                            by_cases c49 : ((rd_T29 l0_1 x12_2).f3) = 0
                            · rw [if_pos c49] at H
                              have c49b0 : (((rd_T29 l0_1 x12_2).f3) == 0) = true := beq_iff_eq.mpr c49
                              have c49b1 : (((rd_T29 l0_1 x12_2).f3) != 0) = false := bne_eq_false_iff_eq.mpr c49
                              clear c49
                              have H' := Aside0.mk H
                              clear H
                              have hnb50 := NB256_268.out
                              have hnc50 := NB268_256.out
                              have hnb51 := NB256_291.out
                              have hnc51 := NB291_256.out
                              have hcz52_0 : wc.cell? ⟨gb256, 0, none⟩ = some (.slice A0_0 l0_0.length c0_0) := (blk_cell BK256.out 0).trans rfl
                              have hcz52_1 : wc.cell? ⟨gb256, 1, none⟩ = some (.slice (some ad284) l0_1.length c0_1) := (blk_cell BK256.out 1).trans rfl
                              have hfz52_0 := blk_frozen BK256.out 0
                              have hfz52_1 := blk_frozen BK256.out 1
                              have p294 : 0 ≤ (x12_2 : Int) := of_decide_eq_true (by first | (with_reducible assumption) | assumption)
                              have q294 : x12_2 < (l0_1.length : Int) := of_decide_eq_true (by first | (with_reducible assumption) | assumption)
                              obtain ⟨ad294, e294, hx294_0, hx294_1, hx294_2, hx294_3⟩ := at_T29 HR0_1.out x12_2 p294 q294
                              obtain rfl : ad284 = ad294 := (by injection e294)
                              replace hx294_0 := (HB.out.cell (World.block_lt_of_cell? w _ hx294_0)).trans hx294_0
                              replace hx294_1 := (HB.out.cell (World.block_lt_of_cell? w _ hx294_1)).trans hx294_1
                              replace hx294_2 := (HB.out.cell (World.block_lt_of_cell? w _ hx294_2)).trans hx294_2
                              replace hx294_3 := (HB.out.cell (World.block_lt_of_cell? w _ hx294_3)).trans hx294_3
                              replace p294 := eq_true p294
                              replace q294 := eq_true q294
                              have p295 : 0 ≤ (x12_2 : Int) := of_decide_eq_true (by first | (with_reducible assumption) | assumption)
                              have q295 : x12_2 < (l0_1.length : Int) := of_decide_eq_true (by first | (with_reducible assumption) | assumption)
                              obtain ⟨ad295, e295, hx295_0, hx295_1, hx295_2, hx295_3⟩ := at_T29 HR0_1.out x12_2 p295 q295
                              obtain rfl : ad284 = ad295 := (by injection e295)
                              replace hx295_0 := (HB.out.cell (World.block_lt_of_cell? w _ hx295_0)).trans hx295_0
                              replace hx295_1 := (HB.out.cell (World.block_lt_of_cell? w _ hx295_1)).trans hx295_1
                              replace hx295_2 := (HB.out.cell (World.block_lt_of_cell? w _ hx295_2)).trans hx295_2
                              replace hx295_3 := (HB.out.cell (World.block_lt_of_cell? w _ hx295_3)).trans hx295_3
                              replace p295 := eq_true p295
                              replace q295 := eq_true q295
                              go_wp2
                              go_roundg kj25
                              case measure => have := HJ5.out; have := HK2.out; have := HJ25.out; omega
                              case rel => exact ⟨(x11_2), (wrap64 (x12_2 + 1)), (by first | rfl | (simp; done) | (simp [*]; done)), (by first | rfl | (simp; done) | (simp [*]; done)), H', ⟨by have := HJ5.out; have := HK2.out; have := HJ25.out; omega⟩, ⟨by (with_reducible repeat (first | apply Kd.R_alloc | apply Kd.R_drewN | apply Kd.R_drew)); exact HO_10.out⟩, ⟨by (with_reducible repeat (first | apply Kd.V_alloc | apply Kd.V_drewN | apply Kd.V_drew)); exact Kd.V_mono HO_269000.out (fun _ hk => ⟨hk.1, ⟨hk.2.1, hk.2.2.1⟩⟩)⟩, ⟨by (with_reducible repeat (first | apply Kd.V_alloc | apply Kd.V_drewN | apply Kd.V_drew)); exact Kd.V_mono HO_269001.out (fun _ hk => ⟨hk.1, ⟨hk.2.1, hk.2.2.1⟩⟩)⟩, ⟨by (with_reducible repeat (first | refine blk_drewN ?_ _ | refine blk_drew ?_ | refine blk_alloc ?_ _)); exact BK256.out⟩, ⟨by (with_reducible repeat (first | refine blk_drewN ?_ _ | refine blk_drew ?_ | refine blk_alloc ?_ _)); exact BK268.out⟩, ⟨by repeat (first | (with_reducible first | exact HB.out | apply below_alloc | apply pw_below_drewN | apply below_drew1 | refine below_set ?_ GE256.out | refine below_set ?_ GE268.out | refine below_set ?_ GE291.out) | exact HB.out)⟩⟩
                            · rw [if_neg c49] at H
                              have c49b0 : (((rd_T29 l0_1 x12_2).f3) == 0) = false := beq_eq_false_iff_ne.mpr c49
                              have c49b1 : (((rd_T29 l0_1 x12_2).f3) != 0) = true := bne_iff_ne.mpr c49
                              have H' := Aside0.mk H
                              clear H
                              have hnb53 := NB256_268.out
                              have hnc53 := NB268_256.out
                              have hnb54 := NB256_291.out
                              have hnc54 := NB291_256.out
                              have hcz55_0 : wc.cell? ⟨gb256, 0, none⟩ = some (.slice A0_0 l0_0.length c0_0) := (blk_cell BK256.out 0).trans rfl
                              have hcz55_1 : wc.cell? ⟨gb256, 1, none⟩ = some (.slice (some ad284) l0_1.length c0_1) := (blk_cell BK256.out 1).trans rfl
                              have hfz55_0 := blk_frozen BK256.out 0
                              have hfz55_1 := blk_frozen BK256.out 1
                              have p294 : 0 ≤ (x12_2 : Int) := of_decide_eq_true (by first | (with_reducible assumption) | assumption)
                              have q294 : x12_2 < (l0_1.length : Int) := of_decide_eq_true (by first | (with_reducible assumption) | assumption)
                              obtain ⟨ad294, e294, hx294_0, hx294_1, hx294_2, hx294_3⟩ := at_T29 HR0_1.out x12_2 p294 q294
                              obtain rfl : ad284 = ad294 := (by injection e294)
                              replace hx294_0 := (HB.out.cell (World.block_lt_of_cell? w _ hx294_0)).trans hx294_0
                              replace hx294_1 := (HB.out.cell (World.block_lt_of_cell? w _ hx294_1)).trans hx294_1
                              replace hx294_2 := (HB.out.cell (World.block_lt_of_cell? w _ hx294_2)).trans hx294_2
                              replace hx294_3 := (HB.out.cell (World.block_lt_of_cell? w _ hx294_3)).trans hx294_3
                              replace p294 := eq_true p294
                              replace q294 := eq_true q294
                              have p295 : 0 ≤ (x12_2 : Int) := of_decide_eq_true (by first | (with_reducible assumption) | assumption)
                              have q295 : x12_2 < (l0_1.length : Int) := of_decide_eq_true (by first | (with_reducible assumption) | assumption)
                              obtain ⟨ad295, e295, hx295_0, hx295_1, hx295_2, hx295_3⟩ := at_T29 HR0_1.out x12_2 p295 q295
                              obtain rfl : ad284 = ad295 := (by injection e295)
                              replace hx295_0 := (HB.out.cell (World.block_lt_of_cell? w _ hx295_0)).trans hx295_0
                              replace hx295_1 := (HB.out.cell (World.block_lt_of_cell? w _ hx295_1)).trans hx295_1
                              replace hx295_2 := (HB.out.cell (World.block_lt_of_cell? w _ hx295_2)).trans hx295_2
                              replace hx295_3 := (HB.out.cell (World.block_lt_of_cell? w _ hx295_3)).trans hx295_3
                              replace p295 := eq_true p295
                              replace q295 := eq_true q295
                              go_wp2
                              go_roundg kj25
                              case measure => have := HJ5.out; have := HK2.out; have := HJ25.out; omega
                              case rel => exact ⟨(wrap64 (x11_2 + 1)), (wrap64 (x12_2 + 1)), (by first | rfl | (simp; done) | (simp [*]; done)), (by first | rfl | (simp; done) | (simp [*]; done)), H', ⟨by have := HJ5.out; have := HK2.out; have := HJ25.out; omega⟩, ⟨by (with_reducible repeat (first | apply Kd.R_alloc | apply Kd.R_drewN | apply Kd.R_drew)); exact HO_10.out⟩, ⟨by (with_reducible repeat (first | apply Kd.V_alloc | apply Kd.V_drewN | apply Kd.V_drew)); exact Kd.V_mono HO_269000.out (fun _ hk => ⟨hk.1, ⟨hk.2.1, hk.2.2.1⟩⟩)⟩, ⟨by (with_reducible repeat (first | apply Kd.V_alloc | apply Kd.V_drewN | apply Kd.V_drew)); exact Kd.V_mono HO_269001.out (fun _ hk => ⟨hk.1, ⟨hk.2.1, hk.2.2.1⟩⟩)⟩, ⟨by (with_reducible repeat (first | refine blk_drewN ?_ _ | refine blk_drew ?_ | refine blk_alloc ?_ _)); exact BK256.out⟩, ⟨by (with_reducible repeat (first | refine blk_drewN ?_ _ | refine blk_drew ?_ | refine blk_alloc ?_ _)); exact BK268.out⟩, ⟨by repeat (first | (with_reducible first | exact HB.out | apply below_alloc | apply pw_below_drewN | apply below_drew1 | refine below_set ?_ GE256.out | refine below_set ?_ GE268.out | refine below_set ?_ GE291.out) | exact HB.out)⟩⟩
                          · rw [if_neg c48] at H
                            have c48b0 : (((rd_T29 l0_1 x12_2).f0) == a1) = false := beq_eq_false_iff_ne.mpr c48
                            have c48b1 : (((rd_T29 l0_1 x12_2).f0) != a1) = true := bne_iff_ne.mpr c48
                            have H' := Aside0.mk H
                            clear H
                            have hnb56 := NB256_268.out
                            have hnc56 := NB268_256.out
                            have hnb57 := NB256_291.out
                            have hnc57 := NB291_256.out
                            have hcz58_0 : wc.cell? ⟨gb256, 0, none⟩ = some (.slice A0_0 l0_0.length c0_0) := (blk_cell BK256.out 0).trans rfl
                            have hcz58_1 : wc.cell? ⟨gb256, 1, none⟩ = some (.slice (some ad284) l0_1.length c0_1) := (blk_cell BK256.out 1).trans rfl
                            have hfz58_0 := blk_frozen BK256.out 0
                            have hfz58_1 := blk_frozen BK256.out 1
                            have p294 : 0 ≤ (x12_2 : Int) := of_decide_eq_true (by first | (with_reducible assumption) | assumption)
                            have q294 : x12_2 < (l0_1.length : Int) := of_decide_eq_true (by first | (with_reducible assumption) | assumption)
                            obtain ⟨ad294, e294, hx294_0, hx294_1, hx294_2, hx294_3⟩ := at_T29 HR0_1.out x12_2 p294 q294
                            obtain rfl : ad284 = ad294 := (by injection e294)
                            replace hx294_0 := (HB.out.cell (World.block_lt_of_cell? w _ hx294_0)).trans hx294_0
                            replace hx294_1 := (HB.out.cell (World.block_lt_of_cell? w _ hx294_1)).trans hx294_1
                            replace hx294_2 := (HB.out.cell (World.block_lt_of_cell? w _ hx294_2)).trans hx294_2
                            replace hx294_3 := (HB.out.cell (World.block_lt_of_cell? w _ hx294_3)).trans hx294_3
                            replace p294 := eq_true p294
                            replace q294 := eq_true q294
                            go_wp2
                            go_roundg kj25
                            case measure => have := HJ5.out; have := HK2.out; have := HJ25.out; omega
                            case rel => exact ⟨(x11_2), (wrap64 (x12_2 + 1)), (by first | rfl | (simp; done) | (simp [*]; done)), (by first | rfl | (simp; done) | (simp [*]; done)), H', ⟨by have := HJ5.out; have := HK2.out; have := HJ25.out; omega⟩, ⟨by (with_reducible repeat (first | apply Kd.R_alloc | apply Kd.R_drewN | apply Kd.R_drew)); exact HO_10.out⟩, ⟨by (with_reducible repeat (first | apply Kd.V_alloc | apply Kd.V_drewN | apply Kd.V_drew)); exact Kd.V_mono HO_269000.out (fun _ hk => ⟨hk.1, ⟨hk.2.1, hk.2.2.1⟩⟩)⟩, ⟨by (with_reducible repeat (first | apply Kd.V_alloc | apply Kd.V_drewN | apply Kd.V_drew)); exact Kd.V_mono HO_269001.out (fun _ hk => ⟨hk.1, ⟨hk.2.1, hk.2.2.1⟩⟩)⟩, ⟨by (with_reducible repeat (first | refine blk_drewN ?_ _ | refine blk_drew ?_ | refine blk_alloc ?_ _)); exact BK256.out⟩, ⟨by (with_reducible repeat (first | refine blk_drewN ?_ _ | refine blk_drew ?_ | refine blk_alloc ?_ _)); exact BK268.out⟩, ⟨by repeat (first | (with_reducible first | exact HB.out | apply below_alloc | apply pw_below_drewN | apply below_drew1 | refine below_set ?_ GE256.out | refine below_set ?_ GE268.out | refine below_set ?_ GE291.out) | exact HB.out)⟩⟩
                        · rw [if_neg c47] at H
                          exact absurd H (by simp)
                      · rw [if_neg c46] at H
                        exact absurd H (by simp)
              · rw [if_neg c24] at H
                exact absurd H (by simp)
            · rw [if_neg c23] at H
              have c23b0 : decide (x12_2 < (l0_1.length : Int)) = false := decide_eq_false c23
              clear c23
              replace H := Option.bind_eq_some_iff.mp H
              obtain ⟨⟨t269, t272, t275, t276, t277, t278, t279⟩, A590, H⟩ := H
              replace H : (if true = true then (if (t265.length : Int) = x11_2 then (if t279 = 0 then (if t275 = a1 then (some false) else (if (t259.length : Int) = (l0_0.length : Int) then (if 0 ≤ a1 then (if a1 < (t259.length : Int) then (some ((rd t259 a1) == 0)) else (none)) else (none)) else (some false))) else (if (t259.length : Int) = (l0_0.length : Int) then (if 0 ≤ a1 then (if a1 < (t259.length : Int) then (some ((rd t259 a1) == 0)) else (none)) else (none)) else (some false))) else (some false)) else (some false)) = some r := H
              have A59 := Aside0.mk A590
              clear A590
              have c60 : true = true := rfl
              · clear c60
                have H1 : (if (t265.length : Int) = x11_2 then (if t279 = 0 then (if t275 = a1 then (some false) else (if (t259.length : Int) = (l0_0.length : Int) then (if 0 ≤ a1 then (if a1 < (t259.length : Int) then (some ((rd t259 a1) == 0)) else (none)) else (none)) else (some false))) else (if (t259.length : Int) = (l0_0.length : Int) then (if 0 ≤ a1 then (if a1 < (t259.length : Int) then (some ((rd t259 a1) == 0)) else (none)) else (none)) else (some false))) else (some false)) = some r := by first | (rw [if_pos rfl] at H; exact H) | (rw [if_pos trivial] at H; exact H)
                clear H
                have H := H1
                clear H1
                by_cases c61 : (t265.length : Int) = x11_2
                · rw [if_pos c61] at H
                  have c61b0 : ((t265.length : Int) == x11_2) = true := beq_iff_eq.mpr c61
                  have c61b1 : ((t265.length : Int) != x11_2) = false := bne_eq_false_iff_eq.mpr c61
                  clear c61
                  by_cases c62 : t279 = 0
                  · rw [if_pos c62] at H
                    have c62b0 : (t279 == 0) = true := beq_iff_eq.mpr c62
                    have c62b1 : (t279 != 0) = false := bne_eq_false_iff_eq.mpr c62
                    clear c62
                    by_cases c63 : t275 = a1
                    · rw [if_pos c63] at H
                      exact absurd ((Option.some.inj H).trans hT_.out) (by decide)
                    · rw [if_neg c63] at H
                      have c63b0 : (t275 == a1) = false := beq_eq_false_iff_ne.mpr c63
                      have c63b1 : (t275 != a1) = true := bne_iff_ne.mpr c63
                      by_cases c64 : (t259.length : Int) = (l0_0.length : Int)
                      · rw [if_pos c64] at H
                        have c64b0 : ((t259.length : Int) == (l0_0.length : Int)) = true := beq_iff_eq.mpr c64
                        have c64b1 : ((t259.length : Int) != (l0_0.length : Int)) = false := bne_eq_false_iff_eq.mpr c64
                        have c64b2 : (t259.length == l0_0.length) = true := by first | simpa using c64 | (simp at c64 ⊢; omega)
                        clear c64
                        by_cases c65 : 0 ≤ a1
                        · rw [if_pos c65] at H
                          have c65b0 : decide (0 ≤ a1) = true := decide_eq_true c65
                          clear c65
                          by_cases c66 : a1 < (t259.length : Int)
                          · rw [if_pos c66] at H
                            have c66b0 : decide (a1 < (t259.length : Int)) = true := decide_eq_true c66
                            clear c66
                            replace H : (if (rd t259 a1) = 0 then (some true) else (some false)) = some r := by
                              rw [← H]
                              by_cases hc_ : (rd t259 a1) = 0
                              · rw [if_pos hc_]; exact congrArg some (Eq.symm (by first | exact decide_eq_true hc_ | exact beq_iff_eq.mpr hc_ | exact hc_ | (simp [hc_]; done) | simp_all))
                              · rw [if_neg hc_]; exact congrArg some (Eq.symm (by first | exact decide_eq_false hc_ | exact beq_eq_false_iff_ne.mpr hc_ | exact Bool.eq_false_iff.mpr hc_ | (simp [hc_]; done) | simp_all))
                            by_cases c67 : (rd t259 a1) = 0
                            · rw [if_pos c67] at H
                              have c67b0 : ((rd t259 a1) == 0) = true := beq_iff_eq.mpr c67
                              have c67b1 : ((rd t259 a1) != 0) = false := bne_eq_false_iff_eq.mpr c67
                              clear c67
                              obtain rfl := Option.some.inj H
                              have hnb68 := NB256_268.out
                              have hnc68 := NB268_256.out
                              have hcz69_0 : wr.cell? ⟨gb256, 0, none⟩ = some (.slice A0_0 l0_0.length c0_0) := (blk_cell BK256.out 0).trans rfl
                              have hcz69_1 : wr.cell? ⟨gb256, 1, none⟩ = some (.slice A0_1 l0_1.length c0_1) := (blk_cell BK256.out 1).trans rfl
                              have hfz69_0 := blk_frozen BK256.out 0
                              have hfz69_1 := blk_frozen BK256.out 1
                              have hcz70_0 : wr.cell? ⟨gb268, 0, none⟩ = some (.slice Ao19 t259.length co19) := (blk_cell BK268.out 0).trans rfl
                              have hcz70_1 : wr.cell? ⟨gb268, 1, none⟩ = some (.slice Ao22 t262.length co22) := (blk_cell BK268.out 1).trans rfl
                              have hfz70_0 := blk_frozen BK268.out 0
                              have hfz70_1 := blk_frozen BK268.out 1
                              have HVB := Aside0.mk (Kd.V_bound HO_269000.out)
                              go_wp2_with (first | ((with_reducible refine gate_callee (f := 12) rfl ?_); refine goesL_ (some 109) rfl rfl Try.func12 (by kernel_rfl) rfl #[.agg #[.slice Ao19 t259.length co19, .slice Ao22 t262.length co22], .int .i64 a2] rfl (by (try simp only [List.map_toArray, List.map_cons, List.map_nil]); first | done | rfl | (simp only [List.length_drop, List.length_take]; rfl)) ?_; (with_reducible refine (pool_Lease.calls (fun k_ => (some k_ ≠ (v266 : Value).ownBlock ∧ (k_ ≠ gb256 ∧ k_ ≠ gb268))) _ _ t259 (fun k_ => (some k_ ≠ (v266 : Value).ownBlock ∧ (k_ ≠ gb256 ∧ k_ ≠ gb268))) _ _ t262 a2 t269 t272 t275 t276 t277 t278 t279 _ ?side1 ?side2 A59.out).mono ?_); (case side1 => exact HO_269000.out); (case side2 => exact HO_269001.out); rintro e w71 ⟨v270, v273, rfl, ho0, ho1, hb⟩; have HVB1 := Aside0.mk (Kd.V_below (vk HVB.out) hb); have HSZ1 : Aside0 (wr.heap.size ≤ w71.heap.size) := ⟨hb.size⟩; clear HVB; have HVB := HVB1; clear HVB1; refine ⟨_, rfl, ?_⟩; have HO271 := Aside0.mk (Kd.V_lower (Kd.V_mono (ok' := fun k_ => some k_ ≠ (v266 : Value).ownBlock ∧ k_ ≠ gb256 ∧ k_ ≠ gb268) ho0 (fun k_ hk_ => ⟨Or.elim hk_ (fun hs_ => Or.elim hs_ (fun hs_ => hs_.1) (fun hs_ => hs_.1)) (fun hn_ => (Kd.fresh' (Kd.R_lt (rk HO_10.out)) k_ hn_)), Or.elim hk_ (fun hs_ => Or.elim hs_ (fun hs_ => hs_.2.1) (fun hs_ => hs_.2.1)) (fun hn_ => (Kd.freshB (bk BK256.out) k_ hn_)), Or.elim hk_ (fun hs_ => Or.elim hs_ (fun hs_ => hs_.2.2) (fun hs_ => hs_.2.2)) (fun hn_ => (Kd.freshB (bk BK268.out) k_ hn_))⟩)) (below_size (by repeat (first | (with_reducible first | exact HB.out | apply bA | apply bN | apply bD | refine bS ?_ ‹_›) | exact HB.out)))); have HO274 := Aside0.mk (Kd.V_lower (Kd.V_mono (ok' := fun k_ => some k_ ≠ (v266 : Value).ownBlock ∧ k_ ≠ gb256 ∧ k_ ≠ gb268) ho1 (fun k_ hk_ => ⟨Or.elim hk_ (fun hs_ => Or.elim hs_ (fun hs_ => hs_.1) (fun hs_ => hs_.1)) (fun hn_ => (Kd.fresh' (Kd.R_lt (rk HO_10.out)) k_ hn_)), Or.elim hk_ (fun hs_ => Or.elim hs_ (fun hs_ => hs_.2.1) (fun hs_ => hs_.2.1)) (fun hn_ => (Kd.freshB (bk BK256.out) k_ hn_)), Or.elim hk_ (fun hs_ => Or.elim hs_ (fun hs_ => hs_.2.2) (fun hs_ => hs_.2.2)) (fun hn_ => (Kd.freshB (bk BK268.out) k_ hn_))⟩)) (below_size (by repeat (first | (with_reducible first | exact HB.out | apply bA | apply bN | apply bD | refine bS ?_ ‹_›) | exact HB.out)))); replace HO_10 := Aside0.mk (Kd.R_below (rk HO_10.out) hb); replace HO_269000 := vv HO_269000 hb; replace HO_269001 := vv HO_269001 hb; replace BK256 := bb BK256 hb; replace BK268 := bb BK268 hb; replace HB := Aside0.mk (below_step (by repeat (first | (with_reducible first | exact HB.out | apply bA | apply bN | apply bD | refine bS ?_ ‹_›) | exact HB.out)) hb); (try clear hb); (try clear hb2); (try clear hk); (try clear hi); (try clear ho0); (try clear ho1)) | ((with_reducible refine gate_dst (N := 15) rfl ?_); (try (refine gate_guard (by rfl) ?_; dsimp only)); refine box_event ?hg (N := 15) ?hd (cs := #[.slice none 0 0, .slice none 0 0]) (t := 25) ?hr ?_; (case hd => rfl); (case hg => rfl); (case hr => first | (go_simp; done) | (go_simp; rfl)); intro gb280 hg w72 hbox hb; have HVB1 := Aside0.mk (Kd.V_below (vk HVB.out) hb); have HG280 : Aside0 (wr.heap.size ≤ gb280) := ⟨by rw [hg]; exact HSZ1.out⟩; have HSZ2 : Aside0 (wr.heap.size ≤ w72.heap.size) := ⟨Nat.le_trans HSZ1.out hb.size⟩; clear HVB; have HVB := HVB1; clear HVB1; have BK280 := Aside0.mk (hbox); have GW280 := Aside0.mk ((by rw [hg]; exact (below_size (by repeat (first | (with_reducible first | exact HB.out | apply bA | apply bN | apply bD | refine bS ?_ ‹_›) | exact HB.out))) : w.heap.size ≤ gb280)); have GE280 := GW280; have NB256_280 := nl BK256 hg; have NB280_256 := ng BK256 hg; have NB268_280 := nl BK268 hg; have NB280_268 := ng BK268 hg; replace HO_10 := Aside0.mk (Kd.R_below (rk HO_10.out) hb); replace HO_269000 := ve HO_269000 hg hb; replace HO_269001 := ve HO_269001 hg hb; replace HO271 := ve HO271 hg hb; replace HO274 := ve HO274 hg hb; replace BK256 := bb BK256 hb; replace BK268 := bb BK268 hb; replace HB := Aside0.mk (below_step (by repeat (first | (with_reducible first | exact HB.out | apply bA | apply bN | apply bD | refine bS ?_ ‹_›) | exact HB.out)) hb); clear hb hbox hg) | ((with_reducible refine gate_dst (N := 16) rfl ?_); (try (refine gate_guard (by rfl) ?_; dsimp only)); refine box_event ?hg (N := 16) ?hd (cs := #[.int .i64 0, .int .i64 0, .int .i64 0, .int .i64 0]) (t := 29) ?hr ?_; (case hd => rfl); (case hg => rfl); (case hr => first | (go_simp; done) | (go_simp; rfl)); intro gb281 hg w73 hbox hb; have HVB1 := Aside0.mk (Kd.V_below (vk HVB.out) hb); have HG281 : Aside0 (wr.heap.size ≤ gb281) := ⟨by rw [hg]; exact HSZ2.out⟩; clear HVB; have HVB := HVB1; clear HVB1; have BK281 := Aside0.mk (hbox); have GW281 := Aside0.mk ((by rw [hg]; exact (below_size (by repeat (first | (with_reducible first | exact HB.out | apply bA | apply bN | apply bD | refine bS ?_ ‹_›) | exact HB.out))) : w.heap.size ≤ gb281)); have GE281 := GW281; have NB256_281 := nl BK256 hg; have NB281_256 := ng BK256 hg; have NB268_281 := nl BK268 hg; have NB281_268 := ng BK268 hg; have NB280_281 := nl BK280 hg; have NB281_280 := ng BK280 hg; replace HO_10 := Aside0.mk (Kd.R_below (rk HO_10.out) hb); replace HO_269000 := ve HO_269000 hg hb; replace HO_269001 := ve HO_269001 hg hb; replace HO271 := ve HO271 hg hb; replace HO274 := ve HO274 hg hb; replace BK256 := bb BK256 hb; replace BK268 := bb BK268 hb; replace BK280 := bb BK280 hb; replace HB := Aside0.mk (below_step (by repeat (first | (with_reducible first | exact HB.out | apply bA | apply bN | apply bD | refine bS ?_ ‹_›) | exact HB.out)) hb); clear hb hbox hg; obtain ⟨Ao74, co74, eo74⟩ := Kd.V_slice HO271.out; subst eo74; have hnb75 := NB280_256.out; have hnc75 := NB256_280.out; have hnb76 := NB280_268.out; have hnc76 := NB268_280.out; have hnb77 := NB280_281.out; have hnc77 := NB281_280.out; have hcz78_0 : w73.cell? ⟨gb280, 0, none⟩ = some (.slice none 0 0) := (blk_cell BK280.out 0).trans rfl; have hcz78_1 : w73.cell? ⟨gb280, 1, none⟩ = some (.slice none 0 0) := (blk_cell BK280.out 1).trans rfl; have hfz78_0 := blk_frozen BK280.out 0; have hfz78_1 := blk_frozen BK280.out 1; obtain ⟨Ao79, co79, eo79⟩ := Kd.V_slice HO274.out; subst eo79; have hnb80 := NB281_256.out; have hnc80 := NB256_281.out; have hnb81 := NB281_268.out; have hnc81 := NB268_281.out; have hcz82_0 : w73.cell? ⟨gb281, 0, none⟩ = some (.int .i64 0) := (blk_cell BK281.out 0).trans rfl; have hcz82_1 : w73.cell? ⟨gb281, 1, none⟩ = some (.int .i64 0) := (blk_cell BK281.out 1).trans rfl; have hcz82_2 : w73.cell? ⟨gb281, 2, none⟩ = some (.int .i64 0) := (blk_cell BK281.out 2).trans rfl; have hcz82_3 : w73.cell? ⟨gb281, 3, none⟩ = some (.int .i64 0) := (blk_cell BK281.out 3).trans rfl; have hfz82_0 := blk_frozen BK281.out 0; have hfz82_1 := blk_frozen BK281.out 1; have hfz82_2 := blk_frozen BK281.out 2; have hfz82_3 := blk_frozen BK281.out 3; obtain ⟨Ao83, co83, eo83⟩ := Kd.R_slice HO_10.out; subst eo83; have hcz84_0 : w73.cell? ⟨gb268, 0, none⟩ = some (.slice Ao19 t259.length co19) := (blk_cell BK268.out 0).trans rfl; have hcz84_1 : w73.cell? ⟨gb268, 1, none⟩ = some (.slice Ao22 t262.length co22) := (blk_cell BK268.out 1).trans rfl; have hfz84_0 := blk_frozen BK268.out 0; have hfz84_1 := blk_frozen BK268.out 1; have hcz85_0 : w73.cell? ⟨gb256, 0, none⟩ = some (.slice A0_0 l0_0.length c0_0) := (blk_cell BK256.out 0).trans rfl; have hcz85_1 : w73.cell? ⟨gb256, 1, none⟩ = some (.slice A0_1 l0_1.length c0_1) := (blk_cell BK256.out 1).trans rfl; have hfz85_0 := blk_frozen BK256.out 0; have hfz85_1 := blk_frozen BK256.out 1; have p282 : 0 ≤ (a1 : Int) := of_decide_eq_true (by first | (with_reducible assumption) | assumption); have q282 : a1 < (t259.length : Int) := of_decide_eq_true (by first | (with_reducible assumption) | assumption); have HVf := Kd.V_far (p := ⟨gb281, 3, none⟩) (Kd.V_far (p := ⟨gb281, 2, none⟩) (Kd.V_far (p := ⟨gb281, 1, none⟩) (Kd.V_far (p := ⟨gb281, 0, none⟩) (Kd.V_far (p := ⟨gb280, 1, none⟩) (Kd.V_far (p := ⟨gb280, 0, none⟩) (HVB.out) (fun k_ hk => Nat.ne_of_lt (Nat.lt_of_lt_of_le hk.2 HG280.out)) (.slice Ao74 t269.length co74)) (fun k_ hk => Nat.ne_of_lt (Nat.lt_of_lt_of_le hk.2 HG280.out)) (.slice Ao79 t272.length co79)) (fun k_ hk => Nat.ne_of_lt (Nat.lt_of_lt_of_le hk.2 HG281.out)) (.int .i64 t275)) (fun k_ hk => Nat.ne_of_lt (Nat.lt_of_lt_of_le hk.2 HG281.out)) (.int .i64 t276)) (fun k_ hk => Nat.ne_of_lt (Nat.lt_of_lt_of_le hk.2 HG281.out)) (.int .i64 t277)) (fun k_ hk => Nat.ne_of_lt (Nat.lt_of_lt_of_le hk.2 HG281.out)) (.int .i64 t278); obtain ⟨ad282, e282, hx282_0⟩ := Kd.at_int (Kd.V_reads' HVf).2.2 a1 p282 q282; clear HVf; cases e282; replace p282 := eq_true p282; replace q282 := eq_true q282))
                              go_ret
                              exact ⟨by first | rfl | (simp [errW_none, errW_some] <;> rfl) | (simp [*, errW_none, errW_some] <;> rfl) | (exfalso; simp only [decide_eq_true_eq, decide_eq_false_iff_not, beq_iff_eq, bne_iff_ne, ne_eq, beq_eq_false_iff_ne, bne_eq_false_iff_eq] at *; omega), by repeat (first | (with_reducible first | exact HB.out | apply below_alloc | apply pw_below_drewN | apply below_drew1 | refine below_set ?_ GE256.out | refine below_set ?_ GE268.out | refine below_set ?_ GE280.out | refine below_set ?_ GE281.out) | exact HB.out)⟩
                            · rw [if_neg c67] at H
                              exact absurd ((Option.some.inj H).trans hT_.out) (by decide)
                          · rw [if_neg c66] at H
                            exact absurd H (by simp)
                        · rw [if_neg c65] at H
                          exact absurd H (by simp)
                      · rw [if_neg c64] at H
                        exact absurd ((Option.some.inj H).trans hT_.out) (by decide)
                  · rw [if_neg c62] at H
                    have c62b0 : (t279 == 0) = false := beq_eq_false_iff_ne.mpr c62
                    have c62b1 : (t279 != 0) = true := bne_iff_ne.mpr c62
                    by_cases c86 : (t259.length : Int) = (l0_0.length : Int)
                    · rw [if_pos c86] at H
                      have c86b0 : ((t259.length : Int) == (l0_0.length : Int)) = true := beq_iff_eq.mpr c86
                      have c86b1 : ((t259.length : Int) != (l0_0.length : Int)) = false := bne_eq_false_iff_eq.mpr c86
                      have c86b2 : (t259.length == l0_0.length) = true := by first | simpa using c86 | (simp at c86 ⊢; omega)
                      clear c86
                      by_cases c87 : 0 ≤ a1
                      · rw [if_pos c87] at H
                        have c87b0 : decide (0 ≤ a1) = true := decide_eq_true c87
                        clear c87
                        by_cases c88 : a1 < (t259.length : Int)
                        · rw [if_pos c88] at H
                          have c88b0 : decide (a1 < (t259.length : Int)) = true := decide_eq_true c88
                          clear c88
                          replace H : (if (rd t259 a1) = 0 then (some true) else (some false)) = some r := by
                            rw [← H]
                            by_cases hc_ : (rd t259 a1) = 0
                            · rw [if_pos hc_]; exact congrArg some (Eq.symm (by first | exact decide_eq_true hc_ | exact beq_iff_eq.mpr hc_ | exact hc_ | (simp [hc_]; done) | simp_all))
                            · rw [if_neg hc_]; exact congrArg some (Eq.symm (by first | exact decide_eq_false hc_ | exact beq_eq_false_iff_ne.mpr hc_ | exact Bool.eq_false_iff.mpr hc_ | (simp [hc_]; done) | simp_all))
                          by_cases c89 : (rd t259 a1) = 0
                          · rw [if_pos c89] at H
                            have c89b0 : ((rd t259 a1) == 0) = true := beq_iff_eq.mpr c89
                            have c89b1 : ((rd t259 a1) != 0) = false := bne_eq_false_iff_eq.mpr c89
                            clear c89
                            obtain rfl := Option.some.inj H
                            have hnb90 := NB256_268.out
                            have hnc90 := NB268_256.out
                            have hcz91_0 : wr.cell? ⟨gb256, 0, none⟩ = some (.slice A0_0 l0_0.length c0_0) := (blk_cell BK256.out 0).trans rfl
                            have hcz91_1 : wr.cell? ⟨gb256, 1, none⟩ = some (.slice A0_1 l0_1.length c0_1) := (blk_cell BK256.out 1).trans rfl
                            have hfz91_0 := blk_frozen BK256.out 0
                            have hfz91_1 := blk_frozen BK256.out 1
                            have hcz92_0 : wr.cell? ⟨gb268, 0, none⟩ = some (.slice Ao19 t259.length co19) := (blk_cell BK268.out 0).trans rfl
                            have hcz92_1 : wr.cell? ⟨gb268, 1, none⟩ = some (.slice Ao22 t262.length co22) := (blk_cell BK268.out 1).trans rfl
                            have hfz92_0 := blk_frozen BK268.out 0
                            have hfz92_1 := blk_frozen BK268.out 1
                            have HVB := Aside0.mk (Kd.V_bound HO_269000.out)
                            go_wp2_with (first | ((with_reducible refine gate_callee (f := 12) rfl ?_); refine goesL_ (some 109) rfl rfl Try.func12 (by kernel_rfl) rfl #[.agg #[.slice Ao19 t259.length co19, .slice Ao22 t262.length co22], .int .i64 a2] rfl (by (try simp only [List.map_toArray, List.map_cons, List.map_nil]); first | done | rfl | (simp only [List.length_drop, List.length_take]; rfl)) ?_; (with_reducible refine (pool_Lease.calls (fun k_ => (some k_ ≠ (v266 : Value).ownBlock ∧ (k_ ≠ gb256 ∧ k_ ≠ gb268))) _ _ t259 (fun k_ => (some k_ ≠ (v266 : Value).ownBlock ∧ (k_ ≠ gb256 ∧ k_ ≠ gb268))) _ _ t262 a2 t269 t272 t275 t276 t277 t278 t279 _ ?side1 ?side2 A59.out).mono ?_); (case side1 => exact HO_269000.out); (case side2 => exact HO_269001.out); rintro e w93 ⟨v270, v273, rfl, ho0, ho1, hb⟩; have HVB1 := Aside0.mk (Kd.V_below (vk HVB.out) hb); have HSZ1 : Aside0 (wr.heap.size ≤ w93.heap.size) := ⟨hb.size⟩; clear HVB; have HVB := HVB1; clear HVB1; refine ⟨_, rfl, ?_⟩; have HO271 := Aside0.mk (Kd.V_lower (Kd.V_mono (ok' := fun k_ => some k_ ≠ (v266 : Value).ownBlock ∧ k_ ≠ gb256 ∧ k_ ≠ gb268) ho0 (fun k_ hk_ => ⟨Or.elim hk_ (fun hs_ => Or.elim hs_ (fun hs_ => hs_.1) (fun hs_ => hs_.1)) (fun hn_ => (Kd.fresh' (Kd.R_lt (rk HO_10.out)) k_ hn_)), Or.elim hk_ (fun hs_ => Or.elim hs_ (fun hs_ => hs_.2.1) (fun hs_ => hs_.2.1)) (fun hn_ => (Kd.freshB (bk BK256.out) k_ hn_)), Or.elim hk_ (fun hs_ => Or.elim hs_ (fun hs_ => hs_.2.2) (fun hs_ => hs_.2.2)) (fun hn_ => (Kd.freshB (bk BK268.out) k_ hn_))⟩)) (below_size (by repeat (first | (with_reducible first | exact HB.out | apply bA | apply bN | apply bD | refine bS ?_ ‹_›) | exact HB.out)))); have HO274 := Aside0.mk (Kd.V_lower (Kd.V_mono (ok' := fun k_ => some k_ ≠ (v266 : Value).ownBlock ∧ k_ ≠ gb256 ∧ k_ ≠ gb268) ho1 (fun k_ hk_ => ⟨Or.elim hk_ (fun hs_ => Or.elim hs_ (fun hs_ => hs_.1) (fun hs_ => hs_.1)) (fun hn_ => (Kd.fresh' (Kd.R_lt (rk HO_10.out)) k_ hn_)), Or.elim hk_ (fun hs_ => Or.elim hs_ (fun hs_ => hs_.2.1) (fun hs_ => hs_.2.1)) (fun hn_ => (Kd.freshB (bk BK256.out) k_ hn_)), Or.elim hk_ (fun hs_ => Or.elim hs_ (fun hs_ => hs_.2.2) (fun hs_ => hs_.2.2)) (fun hn_ => (Kd.freshB (bk BK268.out) k_ hn_))⟩)) (below_size (by repeat (first | (with_reducible first | exact HB.out | apply bA | apply bN | apply bD | refine bS ?_ ‹_›) | exact HB.out)))); replace HO_10 := Aside0.mk (Kd.R_below (rk HO_10.out) hb); replace HO_269000 := vv HO_269000 hb; replace HO_269001 := vv HO_269001 hb; replace BK256 := bb BK256 hb; replace BK268 := bb BK268 hb; replace HB := Aside0.mk (below_step (by repeat (first | (with_reducible first | exact HB.out | apply bA | apply bN | apply bD | refine bS ?_ ‹_›) | exact HB.out)) hb); (try clear hb); (try clear hb2); (try clear hk); (try clear hi); (try clear ho0); (try clear ho1)) | ((with_reducible refine gate_dst (N := 15) rfl ?_); (try (refine gate_guard (by rfl) ?_; dsimp only)); refine box_event ?hg (N := 15) ?hd (cs := #[.slice none 0 0, .slice none 0 0]) (t := 25) ?hr ?_; (case hd => rfl); (case hg => rfl); (case hr => first | (go_simp; done) | (go_simp; rfl)); intro gb280 hg w94 hbox hb; have HVB1 := Aside0.mk (Kd.V_below (vk HVB.out) hb); have HG280 : Aside0 (wr.heap.size ≤ gb280) := ⟨by rw [hg]; exact HSZ1.out⟩; have HSZ2 : Aside0 (wr.heap.size ≤ w94.heap.size) := ⟨Nat.le_trans HSZ1.out hb.size⟩; clear HVB; have HVB := HVB1; clear HVB1; have BK280 := Aside0.mk (hbox); have GW280 := Aside0.mk ((by rw [hg]; exact (below_size (by repeat (first | (with_reducible first | exact HB.out | apply bA | apply bN | apply bD | refine bS ?_ ‹_›) | exact HB.out))) : w.heap.size ≤ gb280)); have GE280 := GW280; have NB256_280 := nl BK256 hg; have NB280_256 := ng BK256 hg; have NB268_280 := nl BK268 hg; have NB280_268 := ng BK268 hg; replace HO_10 := Aside0.mk (Kd.R_below (rk HO_10.out) hb); replace HO_269000 := ve HO_269000 hg hb; replace HO_269001 := ve HO_269001 hg hb; replace HO271 := ve HO271 hg hb; replace HO274 := ve HO274 hg hb; replace BK256 := bb BK256 hb; replace BK268 := bb BK268 hb; replace HB := Aside0.mk (below_step (by repeat (first | (with_reducible first | exact HB.out | apply bA | apply bN | apply bD | refine bS ?_ ‹_›) | exact HB.out)) hb); clear hb hbox hg) | ((with_reducible refine gate_dst (N := 16) rfl ?_); (try (refine gate_guard (by rfl) ?_; dsimp only)); refine box_event ?hg (N := 16) ?hd (cs := #[.int .i64 0, .int .i64 0, .int .i64 0, .int .i64 0]) (t := 29) ?hr ?_; (case hd => rfl); (case hg => rfl); (case hr => first | (go_simp; done) | (go_simp; rfl)); intro gb281 hg w95 hbox hb; have HVB1 := Aside0.mk (Kd.V_below (vk HVB.out) hb); have HG281 : Aside0 (wr.heap.size ≤ gb281) := ⟨by rw [hg]; exact HSZ2.out⟩; clear HVB; have HVB := HVB1; clear HVB1; have BK281 := Aside0.mk (hbox); have GW281 := Aside0.mk ((by rw [hg]; exact (below_size (by repeat (first | (with_reducible first | exact HB.out | apply bA | apply bN | apply bD | refine bS ?_ ‹_›) | exact HB.out))) : w.heap.size ≤ gb281)); have GE281 := GW281; have NB256_281 := nl BK256 hg; have NB281_256 := ng BK256 hg; have NB268_281 := nl BK268 hg; have NB281_268 := ng BK268 hg; have NB280_281 := nl BK280 hg; have NB281_280 := ng BK280 hg; replace HO_10 := Aside0.mk (Kd.R_below (rk HO_10.out) hb); replace HO_269000 := ve HO_269000 hg hb; replace HO_269001 := ve HO_269001 hg hb; replace HO271 := ve HO271 hg hb; replace HO274 := ve HO274 hg hb; replace BK256 := bb BK256 hb; replace BK268 := bb BK268 hb; replace BK280 := bb BK280 hb; replace HB := Aside0.mk (below_step (by repeat (first | (with_reducible first | exact HB.out | apply bA | apply bN | apply bD | refine bS ?_ ‹_›) | exact HB.out)) hb); clear hb hbox hg; obtain ⟨Ao96, co96, eo96⟩ := Kd.V_slice HO271.out; subst eo96; have hnb97 := NB280_256.out; have hnc97 := NB256_280.out; have hnb98 := NB280_268.out; have hnc98 := NB268_280.out; have hnb99 := NB280_281.out; have hnc99 := NB281_280.out; have hcz100_0 : w95.cell? ⟨gb280, 0, none⟩ = some (.slice none 0 0) := (blk_cell BK280.out 0).trans rfl; have hcz100_1 : w95.cell? ⟨gb280, 1, none⟩ = some (.slice none 0 0) := (blk_cell BK280.out 1).trans rfl; have hfz100_0 := blk_frozen BK280.out 0; have hfz100_1 := blk_frozen BK280.out 1; obtain ⟨Ao101, co101, eo101⟩ := Kd.V_slice HO274.out; subst eo101; have hnb102 := NB281_256.out; have hnc102 := NB256_281.out; have hnb103 := NB281_268.out; have hnc103 := NB268_281.out; have hcz104_0 : w95.cell? ⟨gb281, 0, none⟩ = some (.int .i64 0) := (blk_cell BK281.out 0).trans rfl; have hcz104_1 : w95.cell? ⟨gb281, 1, none⟩ = some (.int .i64 0) := (blk_cell BK281.out 1).trans rfl; have hcz104_2 : w95.cell? ⟨gb281, 2, none⟩ = some (.int .i64 0) := (blk_cell BK281.out 2).trans rfl; have hcz104_3 : w95.cell? ⟨gb281, 3, none⟩ = some (.int .i64 0) := (blk_cell BK281.out 3).trans rfl; have hfz104_0 := blk_frozen BK281.out 0; have hfz104_1 := blk_frozen BK281.out 1; have hfz104_2 := blk_frozen BK281.out 2; have hfz104_3 := blk_frozen BK281.out 3; obtain ⟨Ao105, co105, eo105⟩ := Kd.R_slice HO_10.out; subst eo105; have hcz106_0 : w95.cell? ⟨gb268, 0, none⟩ = some (.slice Ao19 t259.length co19) := (blk_cell BK268.out 0).trans rfl; have hcz106_1 : w95.cell? ⟨gb268, 1, none⟩ = some (.slice Ao22 t262.length co22) := (blk_cell BK268.out 1).trans rfl; have hfz106_0 := blk_frozen BK268.out 0; have hfz106_1 := blk_frozen BK268.out 1; have hcz107_0 : w95.cell? ⟨gb256, 0, none⟩ = some (.slice A0_0 l0_0.length c0_0) := (blk_cell BK256.out 0).trans rfl; have hcz107_1 : w95.cell? ⟨gb256, 1, none⟩ = some (.slice A0_1 l0_1.length c0_1) := (blk_cell BK256.out 1).trans rfl; have hfz107_0 := blk_frozen BK256.out 0; have hfz107_1 := blk_frozen BK256.out 1; have p283 : 0 ≤ (a1 : Int) := of_decide_eq_true (by first | (with_reducible assumption) | assumption); have q283 : a1 < (t259.length : Int) := of_decide_eq_true (by first | (with_reducible assumption) | assumption); have HVf := Kd.V_far (p := ⟨gb281, 3, none⟩) (Kd.V_far (p := ⟨gb281, 2, none⟩) (Kd.V_far (p := ⟨gb281, 1, none⟩) (Kd.V_far (p := ⟨gb281, 0, none⟩) (Kd.V_far (p := ⟨gb280, 1, none⟩) (Kd.V_far (p := ⟨gb280, 0, none⟩) (HVB.out) (fun k_ hk => Nat.ne_of_lt (Nat.lt_of_lt_of_le hk.2 HG280.out)) (.slice Ao96 t269.length co96)) (fun k_ hk => Nat.ne_of_lt (Nat.lt_of_lt_of_le hk.2 HG280.out)) (.slice Ao101 t272.length co101)) (fun k_ hk => Nat.ne_of_lt (Nat.lt_of_lt_of_le hk.2 HG281.out)) (.int .i64 t275)) (fun k_ hk => Nat.ne_of_lt (Nat.lt_of_lt_of_le hk.2 HG281.out)) (.int .i64 t276)) (fun k_ hk => Nat.ne_of_lt (Nat.lt_of_lt_of_le hk.2 HG281.out)) (.int .i64 t277)) (fun k_ hk => Nat.ne_of_lt (Nat.lt_of_lt_of_le hk.2 HG281.out)) (.int .i64 t278); obtain ⟨ad283, e283, hx283_0⟩ := Kd.at_int (Kd.V_reads' HVf).2.2 a1 p283 q283; clear HVf; cases e283; replace p283 := eq_true p283; replace q283 := eq_true q283))
                            go_ret
                            exact ⟨by first | rfl | (simp [errW_none, errW_some] <;> rfl) | (simp [*, errW_none, errW_some] <;> rfl) | (exfalso; simp only [decide_eq_true_eq, decide_eq_false_iff_not, beq_iff_eq, bne_iff_ne, ne_eq, beq_eq_false_iff_ne, bne_eq_false_iff_eq] at *; omega), by repeat (first | (with_reducible first | exact HB.out | apply below_alloc | apply pw_below_drewN | apply below_drew1 | refine below_set ?_ GE256.out | refine below_set ?_ GE268.out | refine below_set ?_ GE280.out | refine below_set ?_ GE281.out) | exact HB.out)⟩
                          · rw [if_neg c89] at H
                            exact absurd ((Option.some.inj H).trans hT_.out) (by decide)
                        · rw [if_neg c88] at H
                          exact absurd H (by simp)
                      · rw [if_neg c87] at H
                        exact absurd H (by simp)
                    · rw [if_neg c86] at H
                      exact absurd ((Option.some.inj H).trans hT_.out) (by decide)
                · rw [if_neg c61] at H
                  exact absurd ((Option.some.inj H).trans hT_.out) (by decide)
end Go.Proofs.Ytgiofigjnchfeaa.Q
