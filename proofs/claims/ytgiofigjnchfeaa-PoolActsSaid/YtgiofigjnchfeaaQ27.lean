/- This text was written by a program of this session: what each Go function computes, as a Lean function, and that its call does so. -/
import Derived.Test.YtgiofigjnchfeaaQ0
import Derived.Test.YtgiofigjnchfeaaV3
namespace Go.Proofs.Ytgiofigjnchfeaa.Q
open Go.RowKit Go.Proofs.YtgiofigjnchfeaaW.PrintWords Go.Proofs.YtgiofigjnchfeaaW.PrintLast Go.Proofs.YtgiofigjnchfeaaW.PrintMore
attribute [local go_sem] max2_int min2_int max_two min_two max_three min_three max_four min_four   -- for this text's walks alone
set_option linter.unusedVariables false
set_option linter.unusedSimpArgs false

/-! ### interchangeref13_Right: function 27 -/
mutual
def interchangeref13_Right.l0 : Nat → Int → List Int → List (S29) → Option (Bool)
 | 0, _, _, _ => none
 | k + 1, x3, x171000, x171001 => if x3 < (x171000.length : Int) then (if 0 ≤ x3 then (if (rd x171000 x3) < 0 then (some false) else (if (rd x171000 x3) > 65535 then (some false) else (interchangeref13_Right.l0 k (wrap64 (x3 + 1)) x171000 x171001))) else (none)) else (interchangeref13_Right.l1 k 0 x171000 x171001)
def interchangeref13_Right.l1 : Nat → Int → List Int → List (S29) → Option (Bool)
 | 0, _, _, _ => none
 | k + 1, x4, x171000, x171001 => if x4 < (x171001.length : Int) then (if 0 ≤ x4 then (if ((rd_T29 x171001 x4).f0) < 0 then (interchangeref13_Right.j2 k x4 true x171000 x171001 ((rd_T29 x171001 x4).f0) ((rd_T29 x171001 x4).f1) ((rd_T29 x171001 x4).f2) ((rd_T29 x171001 x4).f3)) else (if ((rd_T29 x171001 x4).f0) ≥ (x171000.length : Int) then (interchangeref13_Right.j2 k x4 true x171000 x171001 ((rd_T29 x171001 x4).f0) ((rd_T29 x171001 x4).f1) ((rd_T29 x171001 x4).f2) ((rd_T29 x171001 x4).f3)) else (if ((rd_T29 x171001 x4).f1) < 1 then (interchangeref13_Right.j2 k x4 true x171000 x171001 ((rd_T29 x171001 x4).f0) ((rd_T29 x171001 x4).f1) ((rd_T29 x171001 x4).f2) ((rd_T29 x171001 x4).f3)) else (if 0 ≤ ((rd_T29 x171001 x4).f0) then (if ((rd_T29 x171001 x4).f0) < (x171000.length : Int) then (if ((rd_T29 x171001 x4).f1) > (rd x171000 ((rd_T29 x171001 x4).f0)) then (interchangeref13_Right.j2 k x4 true x171000 x171001 ((rd_T29 x171001 x4).f0) ((rd_T29 x171001 x4).f1) ((rd_T29 x171001 x4).f2) ((rd_T29 x171001 x4).f3)) else (if ((rd_T29 x171001 x4).f2) < 1 then (interchangeref13_Right.j2 k x4 true x171000 x171001 ((rd_T29 x171001 x4).f0) ((rd_T29 x171001 x4).f1) ((rd_T29 x171001 x4).f2) ((rd_T29 x171001 x4).f3)) else (if ((rd_T29 x171001 x4).f2) > 3 then (interchangeref13_Right.j2 k x4 true x171000 x171001 ((rd_T29 x171001 x4).f0) ((rd_T29 x171001 x4).f1) ((rd_T29 x171001 x4).f2) ((rd_T29 x171001 x4).f3)) else (interchangeref13_Right.j2 k x4 (decide (((rd_T29 x171001 x4).f3) < 0)) x171000 x171001 ((rd_T29 x171001 x4).f0) ((rd_T29 x171001 x4).f1) ((rd_T29 x171001 x4).f2) ((rd_T29 x171001 x4).f3))))) else (none)) else (none))))) else (none)) else (some true)
def interchangeref13_Right.j2 : Nat → Int → Bool → List Int → List (S29) → Int → Int → Int → Int → Option (Bool)
 | 0, _, _, _, _, _, _, _, _ => none
 | k + 1, x4, x85, x171000, x171001, x175000, x175001, x175002, x175003 => if x85 = true then (some false) else (if x175002 = 3 then (if x175003 = 0 then (interchangeref13_Right.j3 k x4 false x171000 x171001 x175000 x175001 x175002 x175003) else (interchangeref13_Right.j3 k x4 true x171000 x171001 x175000 x175001 x175002 x175003)) else (interchangeref13_Right.j3 k x4 (x175003 == 0) x171000 x171001 x175000 x175001 x175002 x175003))
def interchangeref13_Right.j3 : Nat → Int → Bool → List Int → List (S29) → Int → Int → Int → Int → Option (Bool)
 | 0, _, _, _, _, _, _, _, _ => none
 | k + 1, x4, x103, x171000, x171001, x175000, x175001, x175002, x175003 => if x103 = true then (some false) else (if x4 > 0 then (if 0 ≤ (wrap64 (x4 - 1)) then (if (wrap64 (x4 - 1)) < (x171001.length : Int) then (if ((rd_T29 x171001 (wrap64 (x4 - 1))).f0) > x175000 then (interchangeref13_Right.j4 k x4 true x171000 x171001 x175000 x175001 x175002 x175003) else (if ((rd_T29 x171001 (wrap64 (x4 - 1))).f0) = x175000 then (interchangeref13_Right.j4 k x4 (decide (((rd_T29 x171001 (wrap64 (x4 - 1))).f1) ≥ x175001)) x171000 x171001 x175000 x175001 x175002 x175003) else (interchangeref13_Right.j4 k x4 false x171000 x171001 x175000 x175001 x175002 x175003))) else (none)) else (none)) else (interchangeref13_Right.j4 k x4 false x171000 x171001 x175000 x175001 x175002 x175003))
def interchangeref13_Right.j4 : Nat → Int → Bool → List Int → List (S29) → Int → Int → Int → Int → Option (Bool)
 | 0, _, _, _, _, _, _, _, _ => none
 | k + 1, x4, x141, x171000, x171001, x175000, x175001, x175002, x175003 => if x141 = true then (some false) else (interchangeref13_Right.l2 k x4 0 x171000 x171001 x175000 x175001 x175002 x175003)
def interchangeref13_Right.l2 : Nat → Int → Int → List Int → List (S29) → Int → Int → Int → Int → Option (Bool)
 | 0, _, _, _, _, _, _, _, _ => none
 | k + 1, x4, x6, x171000, x171001, x175000, x175001, x175002, x175003 => if x6 < x4 then (if x175003 = 0 then (interchangeref13_Right.l2 k x4 (wrap64 (x6 + 1)) x171000 x171001 x175000 x175001 x175002 x175003) else (if 0 ≤ x6 then (if x6 < (x171001.length : Int) then (if ((rd_T29 x171001 x6).f3) = x175003 then (some false) else (interchangeref13_Right.l2 k x4 (wrap64 (x6 + 1)) x171000 x171001 x175000 x175001 x175002 x175003)) else (none)) else (none))) else (interchangeref13_Right.l1 k (wrap64 (x4 + 1)) x171000 x171001)
end
def interchangeref13_Right.f (k : Nat) (l0_0 : List Int) (l0_1 : List (S29)) : Option (Bool) := if (l0_0.length : Int) > 64 then (some false) else (interchangeref13_Right.l0 k 0 l0_0 l0_1)
theorem interchangeref13_Right.mono_l : ∀ k, (∀ y0 y1 y2, LeO (interchangeref13_Right.l0 k y0 y1 y2) (interchangeref13_Right.l0 (k + 1) y0 y1 y2)) ∧ (∀ y0 y1 y2, LeO (interchangeref13_Right.l1 k y0 y1 y2) (interchangeref13_Right.l1 (k + 1) y0 y1 y2)) ∧ (∀ y0 y1 y2 y3 y4 y5 y6 y7, LeO (interchangeref13_Right.j2 k y0 y1 y2 y3 y4 y5 y6 y7) (interchangeref13_Right.j2 (k + 1) y0 y1 y2 y3 y4 y5 y6 y7)) ∧ (∀ y0 y1 y2 y3 y4 y5 y6 y7, LeO (interchangeref13_Right.j3 k y0 y1 y2 y3 y4 y5 y6 y7) (interchangeref13_Right.j3 (k + 1) y0 y1 y2 y3 y4 y5 y6 y7)) ∧ (∀ y0 y1 y2 y3 y4 y5 y6 y7, LeO (interchangeref13_Right.j4 k y0 y1 y2 y3 y4 y5 y6 y7) (interchangeref13_Right.j4 (k + 1) y0 y1 y2 y3 y4 y5 y6 y7)) ∧ (∀ y0 y1 y2 y3 y4 y5 y6 y7, LeO (interchangeref13_Right.l2 k y0 y1 y2 y3 y4 y5 y6 y7) (interchangeref13_Right.l2 (k + 1) y0 y1 y2 y3 y4 y5 y6 y7))
 | 0 => ⟨fun _ _ _ r h => by simp [interchangeref13_Right.l0] at h, fun _ _ _ r h => by simp [interchangeref13_Right.l1] at h, fun _ _ _ _ _ _ _ _ r h => by simp [interchangeref13_Right.j2] at h, fun _ _ _ _ _ _ _ _ r h => by simp [interchangeref13_Right.j3] at h, fun _ _ _ _ _ _ _ _ r h => by simp [interchangeref13_Right.j4] at h, fun _ _ _ _ _ _ _ _ r h => by simp [interchangeref13_Right.l2] at h⟩
 | k + 1 => by
  obtain ⟨ih0, ih1, ih2, ih3, ih4, ih5⟩ := interchangeref13_Right.mono_l k
  refine ⟨?_, ?_, ?_, ?_, ?_, ?_⟩
  ·
   intro y0 y1 y2
   unfold interchangeref13_Right.l0
   repeat' first
   | (with_reducible exact ih0 _ _ _)
   | (with_reducible exact ih1 _ _ _)
   | (with_reducible exact ih2 _ _ _ _ _ _ _ _)
   | (with_reducible exact ih3 _ _ _ _ _ _ _ _)
   | (with_reducible exact ih4 _ _ _ _ _ _ _ _)
   | (with_reducible exact ih5 _ _ _ _ _ _ _ _)
   | (with_reducible exact LeO.refl _)
   | (with_reducible exact LeO.none _)
   | (with_reducible refine LeO.ite ?_ ?_)
   | (with_reducible refine LeO.bind ?_ (fun _ => ?_))
   | exact ih0 _ _ _
   | exact ih1 _ _ _
   | exact ih2 _ _ _ _ _ _ _ _
   | exact ih3 _ _ _ _ _ _ _ _
   | exact ih4 _ _ _ _ _ _ _ _
   | exact ih5 _ _ _ _ _ _ _ _
   | exact LeO.none _
   | refine LeO.ite ?_ ?_
   | refine LeO.bind ?_ (fun _ => ?_)
  ·
   intro y0 y1 y2
   unfold interchangeref13_Right.l1
   repeat' first
   | (with_reducible exact ih0 _ _ _)
   | (with_reducible exact ih1 _ _ _)
   | (with_reducible exact ih2 _ _ _ _ _ _ _ _)
   | (with_reducible exact ih3 _ _ _ _ _ _ _ _)
   | (with_reducible exact ih4 _ _ _ _ _ _ _ _)
   | (with_reducible exact ih5 _ _ _ _ _ _ _ _)
   | (with_reducible exact LeO.refl _)
   | (with_reducible exact LeO.none _)
   | (with_reducible refine LeO.ite ?_ ?_)
   | (with_reducible refine LeO.bind ?_ (fun _ => ?_))
   | exact ih0 _ _ _
   | exact ih1 _ _ _
   | exact ih2 _ _ _ _ _ _ _ _
   | exact ih3 _ _ _ _ _ _ _ _
   | exact ih4 _ _ _ _ _ _ _ _
   | exact ih5 _ _ _ _ _ _ _ _
   | exact LeO.none _
   | refine LeO.ite ?_ ?_
   | refine LeO.bind ?_ (fun _ => ?_)
  ·
   intro y0 y1 y2 y3 y4 y5 y6 y7
   unfold interchangeref13_Right.j2
   repeat' first
   | (with_reducible exact ih0 _ _ _)
   | (with_reducible exact ih1 _ _ _)
   | (with_reducible exact ih2 _ _ _ _ _ _ _ _)
   | (with_reducible exact ih3 _ _ _ _ _ _ _ _)
   | (with_reducible exact ih4 _ _ _ _ _ _ _ _)
   | (with_reducible exact ih5 _ _ _ _ _ _ _ _)
   | (with_reducible exact LeO.refl _)
   | (with_reducible exact LeO.none _)
   | (with_reducible refine LeO.ite ?_ ?_)
   | (with_reducible refine LeO.bind ?_ (fun _ => ?_))
   | exact ih0 _ _ _
   | exact ih1 _ _ _
   | exact ih2 _ _ _ _ _ _ _ _
   | exact ih3 _ _ _ _ _ _ _ _
   | exact ih4 _ _ _ _ _ _ _ _
   | exact ih5 _ _ _ _ _ _ _ _
   | exact LeO.none _
   | refine LeO.ite ?_ ?_
   | refine LeO.bind ?_ (fun _ => ?_)
  ·
   intro y0 y1 y2 y3 y4 y5 y6 y7
   unfold interchangeref13_Right.j3
   repeat' first
   | (with_reducible exact ih0 _ _ _)
   | (with_reducible exact ih1 _ _ _)
   | (with_reducible exact ih2 _ _ _ _ _ _ _ _)
   | (with_reducible exact ih3 _ _ _ _ _ _ _ _)
   | (with_reducible exact ih4 _ _ _ _ _ _ _ _)
   | (with_reducible exact ih5 _ _ _ _ _ _ _ _)
   | (with_reducible exact LeO.refl _)
   | (with_reducible exact LeO.none _)
   | (with_reducible refine LeO.ite ?_ ?_)
   | (with_reducible refine LeO.bind ?_ (fun _ => ?_))
   | exact ih0 _ _ _
   | exact ih1 _ _ _
   | exact ih2 _ _ _ _ _ _ _ _
   | exact ih3 _ _ _ _ _ _ _ _
   | exact ih4 _ _ _ _ _ _ _ _
   | exact ih5 _ _ _ _ _ _ _ _
   | exact LeO.none _
   | refine LeO.ite ?_ ?_
   | refine LeO.bind ?_ (fun _ => ?_)
  ·
   intro y0 y1 y2 y3 y4 y5 y6 y7
   unfold interchangeref13_Right.j4
   repeat' first
   | (with_reducible exact ih0 _ _ _)
   | (with_reducible exact ih1 _ _ _)
   | (with_reducible exact ih2 _ _ _ _ _ _ _ _)
   | (with_reducible exact ih3 _ _ _ _ _ _ _ _)
   | (with_reducible exact ih4 _ _ _ _ _ _ _ _)
   | (with_reducible exact ih5 _ _ _ _ _ _ _ _)
   | (with_reducible exact LeO.refl _)
   | (with_reducible exact LeO.none _)
   | (with_reducible refine LeO.ite ?_ ?_)
   | (with_reducible refine LeO.bind ?_ (fun _ => ?_))
   | exact ih0 _ _ _
   | exact ih1 _ _ _
   | exact ih2 _ _ _ _ _ _ _ _
   | exact ih3 _ _ _ _ _ _ _ _
   | exact ih4 _ _ _ _ _ _ _ _
   | exact ih5 _ _ _ _ _ _ _ _
   | exact LeO.none _
   | refine LeO.ite ?_ ?_
   | refine LeO.bind ?_ (fun _ => ?_)
  ·
   intro y0 y1 y2 y3 y4 y5 y6 y7
   unfold interchangeref13_Right.l2
   repeat' first
   | (with_reducible exact ih0 _ _ _)
   | (with_reducible exact ih1 _ _ _)
   | (with_reducible exact ih2 _ _ _ _ _ _ _ _)
   | (with_reducible exact ih3 _ _ _ _ _ _ _ _)
   | (with_reducible exact ih4 _ _ _ _ _ _ _ _)
   | (with_reducible exact ih5 _ _ _ _ _ _ _ _)
   | (with_reducible exact LeO.refl _)
   | (with_reducible exact LeO.none _)
   | (with_reducible refine LeO.ite ?_ ?_)
   | (with_reducible refine LeO.bind ?_ (fun _ => ?_))
   | exact ih0 _ _ _
   | exact ih1 _ _ _
   | exact ih2 _ _ _ _ _ _ _ _
   | exact ih3 _ _ _ _ _ _ _ _
   | exact ih4 _ _ _ _ _ _ _ _
   | exact ih5 _ _ _ _ _ _ _ _
   | exact LeO.none _
   | refine LeO.ite ?_ ?_
   | refine LeO.bind ?_ (fun _ => ?_)
theorem interchangeref13_Right.mono : ∀ a0 a1 k, LeO (interchangeref13_Right.f k a0 a1) (interchangeref13_Right.f (k + 1) a0 a1) := by
 intro a0 a1 k
 obtain ⟨ih0, ih1, ih2, ih3, ih4, ih5⟩ := interchangeref13_Right.mono_l k
 unfold interchangeref13_Right.f
 repeat' first
   | (with_reducible exact ih0 _ _ _)
   | (with_reducible exact ih1 _ _ _)
   | (with_reducible exact ih2 _ _ _ _ _ _ _ _)
   | (with_reducible exact ih3 _ _ _ _ _ _ _ _)
   | (with_reducible exact ih4 _ _ _ _ _ _ _ _)
   | (with_reducible exact ih5 _ _ _ _ _ _ _ _)
   | (with_reducible exact LeO.refl _)
   | (with_reducible exact LeO.none _)
   | (with_reducible refine LeO.ite ?_ ?_)
   | (with_reducible refine LeO.bind ?_ (fun _ => ?_))
   | exact ih0 _ _ _
   | exact ih1 _ _ _
   | exact ih2 _ _ _ _ _ _ _ _
   | exact ih3 _ _ _ _ _ _ _ _
   | exact ih4 _ _ _ _ _ _ _ _
   | exact ih5 _ _ _ _ _ _ _ _
   | exact LeO.none _
   | refine LeO.ite ?_ ?_
   | refine LeO.bind ?_ (fun _ => ?_)
set_option maxHeartbeats 8000000 in
set_option maxRecDepth 100000 in
theorem interchangeref13_Right.calls (k : Nat) (A0_0 : Option Addr) (c0_0 : Nat) (l0_0 : List Int) (A0_1 : Option Addr) (c0_1 : Nat) (l0_1 : List (S29)) (r : Bool) (w : World) (hr0_0 : Kd.C (Kd.int .i64) w A0_0 l0_0.length l0_0) (hc0_0 : l0_0.length ≤ c0_0) (hr0_1 : Kd.C k29 w A0_1 l0_1.length l0_1) (hc0_1 : l0_1.length ≤ c0_1) (h : interchangeref13_Right.f k l0_0 l0_1 = some r) :
  Calls Try.prog 27 #[.agg #[.slice A0_0 l0_0.length c0_0, .slice A0_1 l0_1.length c0_1]] w fun e w' => e = .returned (.bool r) ∧ Below w.heap.size w w' := by
 have hu25 := Try.underlying25
 have hu29 := Try.underlying29
 have HR0_0 := Aside0.mk hr0_0
 have HC0_0 := Aside0.mk hc0_0
 clear hr0_0 hc0_0
 have HR0_1 := Aside0.mk hr0_1
 have HC0_1 := Aside0.mk hc0_1
 clear hr0_1 hc0_1
 have HB := Aside0.mk (Below.refl w.heap.size w)
 have H : (if (l0_0.length : Int) > 64 then (some false) else (interchangeref13_Right.l0 k 0 l0_0 l0_1)) = some r := h
 clear h
 by_cases c2 : (l0_0.length : Int) > 64
 ·
  rw [if_pos c2] at H
  have c2b0 : decide (64 < (l0_0.length : Int)) = true := decide_eq_true c2
  have c2b1 : decide (64 < l0_0.length) = true := decide_eq_true (by omega)
  clear c2
  obtain rfl := Option.some.inj H
  go_enter Try.func27, Try.ntmps27
  go_wp2_with (first | ((with_reducible refine gate_dst (N := 1) rfl ?_); (try (refine gate_guard (by rfl) ?_; dsimp only)); refine box_event ?hg (N := 1) ?hd (cs := #[.slice A0_0 l0_0.length c0_0, .slice A0_1 l0_1.length c0_1]) (t := 25) ?hr ?_; (case hd => rfl); (case hg => rfl); (case hr => first | (go_simp; done) | (go_simp; rfl)); intro gb170 hg w3 hbox hb; have BK170 := Aside0.mk (hbox); have GW170 := Aside0.mk ((by rw [hg]; exact (below_size (bl HB.out)) : w.heap.size ≤ gb170)); have GE170 := GW170; replace HB := hs HB hb; clear hb hbox hg; have hcz4_0 : w3.cell? ⟨gb170, 0, none⟩ = some (.slice A0_0 l0_0.length c0_0) := (blk_cell BK170.out 0).trans rfl; have hcz4_1 : w3.cell? ⟨gb170, 1, none⟩ = some (.slice A0_1 l0_1.length c0_1) := (blk_cell BK170.out 1).trans rfl; have hfz4_0 := blk_frozen BK170.out 0; have hfz4_1 := blk_frozen BK170.out 1))
  repeat (go_quiet (first | ((with_reducible refine gate_dst (N := 1) rfl ?_); (try (refine gate_guard (by rfl) ?_; dsimp only)); refine box_event ?hg (N := 1) ?hd (cs := #[.slice A0_0 l0_0.length c0_0, .slice A0_1 l0_1.length c0_1]) (t := 25) ?hr ?_; (case hd => rfl); (case hg => rfl); (case hr => first | (go_simp; done) | (go_simp; rfl)); intro gb170 hg w3 hbox hb; have BK170 := Aside0.mk (hbox); have GW170 := Aside0.mk ((by rw [hg]; exact (below_size (bl HB.out)) : w.heap.size ≤ gb170)); have GE170 := GW170; replace HB := hs HB hb; clear hb hbox hg; have hcz4_0 : w3.cell? ⟨gb170, 0, none⟩ = some (.slice A0_0 l0_0.length c0_0) := (blk_cell BK170.out 0).trans rfl; have hcz4_1 : w3.cell? ⟨gb170, 1, none⟩ = some (.slice A0_1 l0_1.length c0_1) := (blk_cell BK170.out 1).trans rfl; have hfz4_0 := blk_frozen BK170.out 0; have hfz4_1 := blk_frozen BK170.out 1)); try go_wp2_with (first | ((with_reducible refine gate_dst (N := 1) rfl ?_); (try (refine gate_guard (by rfl) ?_; dsimp only)); refine box_event ?hg (N := 1) ?hd (cs := #[.slice A0_0 l0_0.length c0_0, .slice A0_1 l0_1.length c0_1]) (t := 25) ?hr ?_; (case hd => rfl); (case hg => rfl); (case hr => first | (go_simp; done) | (go_simp; rfl)); intro gb170 hg w3 hbox hb; have BK170 := Aside0.mk (hbox); have GW170 := Aside0.mk ((by rw [hg]; exact (below_size (bl HB.out)) : w.heap.size ≤ gb170)); have GE170 := GW170; replace HB := hs HB hb; clear hb hbox hg; have hcz4_0 : w3.cell? ⟨gb170, 0, none⟩ = some (.slice A0_0 l0_0.length c0_0) := (blk_cell BK170.out 0).trans rfl; have hcz4_1 : w3.cell? ⟨gb170, 1, none⟩ = some (.slice A0_1 l0_1.length c0_1) := (blk_cell BK170.out 1).trans rfl; have hfz4_0 := blk_frozen BK170.out 0; have hfz4_1 := blk_frozen BK170.out 1)))
  go_ret
  exact ⟨by first | rfl | (simp [errW_none, errW_some] <;> rfl) | (simp [*, errW_none, errW_some] <;> rfl), by repeat (first | (with_reducible first | exact HB.out | apply below_alloc | apply pw_below_drewN | apply below_drew1 | refine below_set ?_ GE170.out) | exact HB.out)⟩
 ·
  rw [if_neg c2] at H
  have c2b0 : decide (64 < (l0_0.length : Int)) = false := decide_eq_false c2
  have c2b1 : decide (64 < l0_0.length) = false := decide_eq_false (by omega)
  clear c2
  have H' := Aside0.mk H
  clear H
  go_enter Try.func27, Try.ntmps27
  go_wp2_with (first | ((with_reducible refine gate_dst (N := 1) rfl ?_); (try (refine gate_guard (by rfl) ?_; dsimp only)); refine box_event ?hg (N := 1) ?hd (cs := #[.slice A0_0 l0_0.length c0_0, .slice A0_1 l0_1.length c0_1]) (t := 25) ?hr ?_; (case hd => rfl); (case hg => rfl); (case hr => first | (go_simp; done) | (go_simp; rfl)); intro gb170 hg w5 hbox hb; have BK170 := Aside0.mk (hbox); have GW170 := Aside0.mk ((by rw [hg]; exact (below_size (bl HB.out)) : w.heap.size ≤ gb170)); have GE170 := GW170; replace HB := hs HB hb; clear hb hbox hg; have hcz6_0 : w5.cell? ⟨gb170, 0, none⟩ = some (.slice A0_0 l0_0.length c0_0) := (blk_cell BK170.out 0).trans rfl; have hcz6_1 : w5.cell? ⟨gb170, 1, none⟩ = some (.slice A0_1 l0_1.length c0_1) := (blk_cell BK170.out 1).trans rfl; have hfz6_0 := blk_frozen BK170.out 0; have hfz6_1 := blk_frozen BK170.out 1))
  repeat (go_quiet (first | ((with_reducible refine gate_dst (N := 1) rfl ?_); (try (refine gate_guard (by rfl) ?_; dsimp only)); refine box_event ?hg (N := 1) ?hd (cs := #[.slice A0_0 l0_0.length c0_0, .slice A0_1 l0_1.length c0_1]) (t := 25) ?hr ?_; (case hd => rfl); (case hg => rfl); (case hr => first | (go_simp; done) | (go_simp; rfl)); intro gb170 hg w5 hbox hb; have BK170 := Aside0.mk (hbox); have GW170 := Aside0.mk ((by rw [hg]; exact (below_size (bl HB.out)) : w.heap.size ≤ gb170)); have GE170 := GW170; replace HB := hs HB hb; clear hb hbox hg; have hcz6_0 : w5.cell? ⟨gb170, 0, none⟩ = some (.slice A0_0 l0_0.length c0_0) := (blk_cell BK170.out 0).trans rfl; have hcz6_1 : w5.cell? ⟨gb170, 1, none⟩ = some (.slice A0_1 l0_1.length c0_1) := (blk_cell BK170.out 1).trans rfl; have hfz6_0 := blk_frozen BK170.out 0; have hfz6_1 := blk_frozen BK170.out 1)); try go_wp2_with (first | ((with_reducible refine gate_dst (N := 1) rfl ?_); (try (refine gate_guard (by rfl) ?_; dsimp only)); refine box_event ?hg (N := 1) ?hd (cs := #[.slice A0_0 l0_0.length c0_0, .slice A0_1 l0_1.length c0_1]) (t := 25) ?hr ?_; (case hd => rfl); (case hg => rfl); (case hr => first | (go_simp; done) | (go_simp; rfl)); intro gb170 hg w5 hbox hb; have BK170 := Aside0.mk (hbox); have GW170 := Aside0.mk ((by rw [hg]; exact (below_size (bl HB.out)) : w.heap.size ≤ gb170)); have GE170 := GW170; replace HB := hs HB hb; clear hb hbox hg; have hcz6_0 : w5.cell? ⟨gb170, 0, none⟩ = some (.slice A0_0 l0_0.length c0_0) := (blk_cell BK170.out 0).trans rfl; have hcz6_1 : w5.cell? ⟨gb170, 1, none⟩ = some (.slice A0_1 l0_1.length c0_1) := (blk_cell BK170.out 1).trans rfl; have hfz6_0 := blk_frozen BK170.out 0; have hfz6_1 := blk_frozen BK170.out 1)))
  go_loopg [3] k (fun kq v3 w' => ∃ (x3_1 : Int), v3 = .int .i64 x3_1 ∧ Aside0 (interchangeref13_Right.l0 kq x3_1 l0_0 l0_1 = some r) ∧ Aside0 (kq ≤ k) ∧ Aside0 (w'.heap[gb170]? = some (.cells #[(.slice A0_0 l0_0.length c0_0), (.slice A0_1 l0_1.length c0_1)] 25 (0, 0))) ∧ Aside0 (Below w.heap.size w w'))
  case atStart => exact ⟨(0), (by first | rfl | (simp; done) | (simp [*]; done)), H', ⟨Nat.le_refl _⟩, ⟨by (with_reducible repeat (first | refine blk_drewN ?_ _ | refine blk_drew ?_ | refine blk_alloc ?_ _)); exact BK170.out⟩, ⟨by repeat (first | (with_reducible first | exact HB.out | apply below_alloc | apply pw_below_drewN | apply below_drew1 | refine below_set ?_ GE170.out) | exact HB.out)⟩⟩
  case round =>
   clear H'
   (try clear c2); (try clear c2b0); (try clear c2b1); (try clear p2); (try clear hcz4_0); (try clear hcz4_1); (try clear hcz6_0); (try clear hcz6_1); (try clear hfz4_0); (try clear hfz4_1); (try clear hfz6_0); (try clear hfz6_1)
   obtain ⟨x3_1, rfl, HA, HK1, BK170, HB⟩ := hrel
   cases gk with
   | zero => exact absurd HA.out (by simp [interchangeref13_Right.l0])
   | succ k1 =>
    have H := HA.out
    clear HA
    simp only [interchangeref13_Right.l0] at H
    by_cases c7 : x3_1 < (l0_0.length : Int)
    ·
     rw [if_pos c7] at H
     have c7b0 : decide (x3_1 < (l0_0.length : Int)) = true := decide_eq_true c7
     clear c7
     by_cases c8 : 0 ≤ x3_1
     ·
      rw [if_pos c8] at H
      have c8b0 : decide (0 ≤ x3_1) = true := decide_eq_true c8
      clear c8
      by_cases c9 : (rd l0_0 x3_1) < 0
      ·
       rw [if_pos c9] at H
       have c9b0 : decide ((rd l0_0 x3_1) < 0) = true := decide_eq_true c9
       clear c9
       obtain rfl := Option.some.inj H
       have hcz10_0 : wr.cell? ⟨gb170, 0, none⟩ = some (.slice A0_0 l0_0.length c0_0) := (blk_cell BK170.out 0).trans rfl
       have hcz10_1 : wr.cell? ⟨gb170, 1, none⟩ = some (.slice A0_1 l0_1.length c0_1) := (blk_cell BK170.out 1).trans rfl
       have hfz10_0 := blk_frozen BK170.out 0
       have hfz10_1 := blk_frozen BK170.out 1
       have p171 : 0 ≤ (x3_1 : Int) := of_decide_eq_true (by first | (with_reducible assumption) | assumption)
       have q171 : x3_1 < (l0_0.length : Int) := of_decide_eq_true (by first | (with_reducible assumption) | assumption)
       obtain ⟨ad171, e171, hx171_0⟩ := Kd.at_int HR0_0.out x3_1 p171 q171
       cases e171
       replace hx171_0 := (HB.out.cell (World.block_lt_of_cell? w _ hx171_0)).trans hx171_0
       replace p171 := eq_true p171
       replace q171 := eq_true q171
       go_wp2
       repeat (go_quiet (fail); try go_wp2)
       go_ret
       exact ⟨by first | rfl | (simp [errW_none, errW_some] <;> rfl) | (simp [*, errW_none, errW_some] <;> rfl), by repeat (first | (with_reducible first | exact HB.out | apply below_alloc | apply pw_below_drewN | apply below_drew1 | refine below_set ?_ GE170.out) | exact HB.out)⟩
      ·
       rw [if_neg c9] at H
       have c9b0 : decide ((rd l0_0 x3_1) < 0) = false := decide_eq_false c9
       clear c9
       by_cases c11 : (rd l0_0 x3_1) > 65535
       ·
        rw [if_pos c11] at H
        have c11b0 : decide (65535 < (rd l0_0 x3_1)) = true := decide_eq_true c11
        clear c11
        obtain rfl := Option.some.inj H
        have hcz12_0 : wr.cell? ⟨gb170, 0, none⟩ = some (.slice A0_0 l0_0.length c0_0) := (blk_cell BK170.out 0).trans rfl
        have hcz12_1 : wr.cell? ⟨gb170, 1, none⟩ = some (.slice A0_1 l0_1.length c0_1) := (blk_cell BK170.out 1).trans rfl
        have hfz12_0 := blk_frozen BK170.out 0
        have hfz12_1 := blk_frozen BK170.out 1
        have p171 : 0 ≤ (x3_1 : Int) := of_decide_eq_true (by first | (with_reducible assumption) | assumption)
        have q171 : x3_1 < (l0_0.length : Int) := of_decide_eq_true (by first | (with_reducible assumption) | assumption)
        obtain ⟨ad171, e171, hx171_0⟩ := Kd.at_int HR0_0.out x3_1 p171 q171
        cases e171
        replace hx171_0 := (HB.out.cell (World.block_lt_of_cell? w _ hx171_0)).trans hx171_0
        replace p171 := eq_true p171
        replace q171 := eq_true q171
        have p172 : 0 ≤ (x3_1 : Int) := of_decide_eq_true (by first | (with_reducible assumption) | assumption)
        have q172 : x3_1 < (l0_0.length : Int) := of_decide_eq_true (by first | (with_reducible assumption) | assumption)
        obtain ⟨ad172, e172, hx172_0⟩ := Kd.at_int HR0_0.out x3_1 p172 q172
        obtain rfl : ad171 = ad172 := (by injection e172)
        replace hx172_0 := (HB.out.cell (World.block_lt_of_cell? w _ hx172_0)).trans hx172_0
        replace p172 := eq_true p172
        replace q172 := eq_true q172
        go_wp2
        repeat (go_quiet (fail); try go_wp2)
        go_ret
        exact ⟨by first | rfl | (simp [errW_none, errW_some] <;> rfl) | (simp [*, errW_none, errW_some] <;> rfl), by repeat (first | (with_reducible first | exact HB.out | apply below_alloc | apply pw_below_drewN | apply below_drew1 | refine below_set ?_ GE170.out) | exact HB.out)⟩
       ·
        rw [if_neg c11] at H
        have c11b0 : decide (65535 < (rd l0_0 x3_1)) = false := decide_eq_false c11
        clear c11
        have H' := Aside0.mk H
        clear H
        have hcz13_0 : wr.cell? ⟨gb170, 0, none⟩ = some (.slice A0_0 l0_0.length c0_0) := (blk_cell BK170.out 0).trans rfl
        have hcz13_1 : wr.cell? ⟨gb170, 1, none⟩ = some (.slice A0_1 l0_1.length c0_1) := (blk_cell BK170.out 1).trans rfl
        have hfz13_0 := blk_frozen BK170.out 0
        have hfz13_1 := blk_frozen BK170.out 1
        have p171 : 0 ≤ (x3_1 : Int) := of_decide_eq_true (by first | (with_reducible assumption) | assumption)
        have q171 : x3_1 < (l0_0.length : Int) := of_decide_eq_true (by first | (with_reducible assumption) | assumption)
        obtain ⟨ad171, e171, hx171_0⟩ := Kd.at_int HR0_0.out x3_1 p171 q171
        cases e171
        replace hx171_0 := (HB.out.cell (World.block_lt_of_cell? w _ hx171_0)).trans hx171_0
        replace p171 := eq_true p171
        replace q171 := eq_true q171
        have p172 : 0 ≤ (x3_1 : Int) := of_decide_eq_true (by first | (with_reducible assumption) | assumption)
        have q172 : x3_1 < (l0_0.length : Int) := of_decide_eq_true (by first | (with_reducible assumption) | assumption)
        obtain ⟨ad172, e172, hx172_0⟩ := Kd.at_int HR0_0.out x3_1 p172 q172
        obtain rfl : ad171 = ad172 := (by injection e172)
        replace hx172_0 := (HB.out.cell (World.block_lt_of_cell? w _ hx172_0)).trans hx172_0
        replace p172 := eq_true p172
        replace q172 := eq_true q172
        go_wp2
        repeat (go_quiet (fail); try go_wp2)
        go_roundg k1
        case measure => have := HK1.out; omega
        case rel => exact ⟨(wrap64 (x3_1 + 1)), (by first | rfl | (simp; done) | (simp [*]; done)), H', ⟨by have := HK1.out; omega⟩, ⟨by (with_reducible repeat (first | refine blk_drewN ?_ _ | refine blk_drew ?_ | refine blk_alloc ?_ _)); exact BK170.out⟩, ⟨by repeat (first | (with_reducible first | exact HB.out | apply below_alloc | apply pw_below_drewN | apply below_drew1 | refine below_set ?_ GE170.out) | exact HB.out)⟩⟩
     ·
      rw [if_neg c8] at H
      exact absurd H (by simp)
    ·
     rw [if_neg c7] at H
     have c7b0 : decide (x3_1 < (l0_0.length : Int)) = false := decide_eq_false c7
     clear c7
     have H' := Aside0.mk H
     clear H
     have hcz14_0 : wr.cell? ⟨gb170, 0, none⟩ = some (.slice A0_0 l0_0.length c0_0) := (blk_cell BK170.out 0).trans rfl
     have hcz14_1 : wr.cell? ⟨gb170, 1, none⟩ = some (.slice A0_1 l0_1.length c0_1) := (blk_cell BK170.out 1).trans rfl
     have hfz14_0 := blk_frozen BK170.out 0
     have hfz14_1 := blk_frozen BK170.out 1
     go_wp2
     repeat (go_quiet (fail); try go_wp2)
     go_loopg [4] k1 (fun kq v4 w' => ∃ (x4_2 : Int), v4 = .int .i64 x4_2 ∧ Aside0 (interchangeref13_Right.l1 kq x4_2 l0_0 l0_1 = some r) ∧ Aside0 (kq ≤ k1) ∧ Aside0 (w'.heap[gb170]? = some (.cells #[(.slice A0_0 l0_0.length c0_0), (.slice A0_1 l0_1.length c0_1)] 25 (0, 0))) ∧ Aside0 (Below w.heap.size w w'))
     case atStart => exact ⟨(0), (by first | rfl | (simp; done) | (simp [*]; done)), H', ⟨Nat.le_refl _⟩, ⟨by (with_reducible repeat (first | refine blk_drewN ?_ _ | refine blk_drew ?_ | refine blk_alloc ?_ _)); exact BK170.out⟩, ⟨by repeat (first | (with_reducible first | exact HB.out | apply below_alloc | apply pw_below_drewN | apply below_drew1 | refine below_set ?_ GE170.out) | exact HB.out)⟩⟩
     case round =>
      clear H'
      (try clear c1); (try clear p1); (try clear q1); (try clear hx1); (try clear c2); (try clear c2b0); (try clear c2b1); (try clear p2); (try clear p6); (try clear c7); (try clear c7b0); (try clear c8); (try clear c8b0); (try clear c9); (try clear c9b0); (try clear c11); (try clear c11b0); (try clear hcz10_0); (try clear hcz10_1); (try clear hcz12_0); (try clear hcz12_1); (try clear hcz13_0); (try clear hcz13_1); (try clear hcz14_0); (try clear hcz14_1); (try clear hcz4_0); (try clear hcz4_1); (try clear hcz6_0); (try clear hcz6_1); (try clear hfz10_0); (try clear hfz10_1); (try clear hfz12_0); (try clear hfz12_1); (try clear hfz13_0); (try clear hfz13_1); (try clear hfz14_0); (try clear hfz14_1); (try clear hfz4_0); (try clear hfz4_1); (try clear hfz6_0); (try clear hfz6_1); (try clear hx171_0); (try clear hx172_0); (try clear p171); (try clear p172); (try clear p2); (try clear q171); (try clear q172)
      obtain ⟨x4_2, rfl, HA, HK2, BK170, HB⟩ := hrel
      cases gk with
      | zero => exact absurd HA.out (by simp [interchangeref13_Right.l1])
      | succ k2 =>
       have H := HA.out
       clear HA
       simp only [interchangeref13_Right.l1] at H
       by_cases c15 : x4_2 < (l0_1.length : Int)
       ·
        rw [if_pos c15] at H
        have c15b0 : decide (x4_2 < (l0_1.length : Int)) = true := decide_eq_true c15
        clear c15
        by_cases c16 : 0 ≤ x4_2
        ·
         rw [if_pos c16] at H
         have c16b0 : decide (0 ≤ x4_2) = true := decide_eq_true c16
         clear c16
         have HC17 := Aside0.mk H
         clear H
         have hcz18_0 : wr.cell? ⟨gb170, 0, none⟩ = some (.slice A0_0 l0_0.length c0_0) := (blk_cell BK170.out 0).trans rfl
         have hcz18_1 : wr.cell? ⟨gb170, 1, none⟩ = some (.slice A0_1 l0_1.length c0_1) := (blk_cell BK170.out 1).trans rfl
         have hfz18_0 := blk_frozen BK170.out 0
         have hfz18_1 := blk_frozen BK170.out 1
         have p173 : 0 ≤ (x4_2 : Int) := of_decide_eq_true (by first | (with_reducible assumption) | assumption)
         have q173 : x4_2 < (l0_1.length : Int) := of_decide_eq_true (by first | (with_reducible assumption) | assumption)
         obtain ⟨ad173, e173, hx173_0, hx173_1, hx173_2, hx173_3⟩ := at_T29 HR0_1.out x4_2 p173 q173
         cases e173
         replace hx173_0 := (HB.out.cell (World.block_lt_of_cell? w _ hx173_0)).trans hx173_0
         replace hx173_1 := (HB.out.cell (World.block_lt_of_cell? w _ hx173_1)).trans hx173_1
         replace hx173_2 := (HB.out.cell (World.block_lt_of_cell? w _ hx173_2)).trans hx173_2
         replace hx173_3 := (HB.out.cell (World.block_lt_of_cell? w _ hx173_3)).trans hx173_3
         replace p173 := eq_true p173
         replace q173 := eq_true q173
         go_upto_region 12 with (first | ((with_reducible refine gate_dst (N := 5) rfl ?_); (try (refine gate_guard (by rfl) ?_; dsimp only)); refine box_event ?hg (N := 5) ?hd (cs := #[.int .i64 0, .int .i64 0, .int .i64 0, .int .i64 0]) (t := 29) ?hr ?_; (case hd => rfl); (case hg => rfl); (case hr => first | (go_simp; done) | (go_simp; rfl)); intro gb174 hg w19 hbox hb; have BK174 := Aside0.mk (hbox); have GW174 := Aside0.mk ((by rw [hg]; exact (below_size (by repeat (first | (with_reducible first | exact HB.out | apply bA | apply bN | apply bD | refine bS ?_ ‹_›) | exact HB.out))) : w.heap.size ≤ gb174)); have GE174 := GW174; have NB170_174 := nl BK170 hg; have NB174_170 := ng BK170 hg; replace BK170 := bb BK170 hb; replace HB := Aside0.mk (below_step (by repeat (first | (with_reducible first | exact HB.out | apply bA | apply bN | apply bD | refine bS ?_ ‹_›) | exact HB.out)) hb); clear hb hbox hg; have hnb20 := NB174_170.out; have hnc20 := NB170_174.out; have hcz21_0 : w19.cell? ⟨gb174, 0, none⟩ = some (.int .i64 0) := (blk_cell BK174.out 0).trans rfl; have hcz21_1 : w19.cell? ⟨gb174, 1, none⟩ = some (.int .i64 0) := (blk_cell BK174.out 1).trans rfl; have hcz21_2 : w19.cell? ⟨gb174, 2, none⟩ = some (.int .i64 0) := (blk_cell BK174.out 2).trans rfl; have hcz21_3 : w19.cell? ⟨gb174, 3, none⟩ = some (.int .i64 0) := (blk_cell BK174.out 3).trans rfl; have hfz21_0 := blk_frozen BK174.out 0; have hfz21_1 := blk_frozen BK174.out 1; have hfz21_2 := blk_frozen BK174.out 2; have hfz21_3 := blk_frozen BK174.out 3))
         repeat (go_quiet (first | ((with_reducible refine gate_dst (N := 5) rfl ?_); (try (refine gate_guard (by rfl) ?_; dsimp only)); refine box_event ?hg (N := 5) ?hd (cs := #[.int .i64 0, .int .i64 0, .int .i64 0, .int .i64 0]) (t := 29) ?hr ?_; (case hd => rfl); (case hg => rfl); (case hr => first | (go_simp; done) | (go_simp; rfl)); intro gb174 hg w19 hbox hb; have BK174 := Aside0.mk (hbox); have GW174 := Aside0.mk ((by rw [hg]; exact (below_size (by repeat (first | (with_reducible first | exact HB.out | apply bA | apply bN | apply bD | refine bS ?_ ‹_›) | exact HB.out))) : w.heap.size ≤ gb174)); have GE174 := GW174; have NB170_174 := nl BK170 hg; have NB174_170 := ng BK170 hg; replace BK170 := bb BK170 hb; replace HB := Aside0.mk (below_step (by repeat (first | (with_reducible first | exact HB.out | apply bA | apply bN | apply bD | refine bS ?_ ‹_›) | exact HB.out)) hb); clear hb hbox hg; have hnb20 := NB174_170.out; have hnc20 := NB170_174.out; have hcz21_0 : w19.cell? ⟨gb174, 0, none⟩ = some (.int .i64 0) := (blk_cell BK174.out 0).trans rfl; have hcz21_1 : w19.cell? ⟨gb174, 1, none⟩ = some (.int .i64 0) := (blk_cell BK174.out 1).trans rfl; have hcz21_2 : w19.cell? ⟨gb174, 2, none⟩ = some (.int .i64 0) := (blk_cell BK174.out 2).trans rfl; have hcz21_3 : w19.cell? ⟨gb174, 3, none⟩ = some (.int .i64 0) := (blk_cell BK174.out 3).trans rfl; have hfz21_0 := blk_frozen BK174.out 0; have hfz21_1 := blk_frozen BK174.out 1; have hfz21_2 := blk_frozen BK174.out 2; have hfz21_3 := blk_frozen BK174.out 3)); go_upto_region 12 with (first | ((with_reducible refine gate_dst (N := 5) rfl ?_); (try (refine gate_guard (by rfl) ?_; dsimp only)); refine box_event ?hg (N := 5) ?hd (cs := #[.int .i64 0, .int .i64 0, .int .i64 0, .int .i64 0]) (t := 29) ?hr ?_; (case hd => rfl); (case hg => rfl); (case hr => first | (go_simp; done) | (go_simp; rfl)); intro gb174 hg w19 hbox hb; have BK174 := Aside0.mk (hbox); have GW174 := Aside0.mk ((by rw [hg]; exact (below_size (by repeat (first | (with_reducible first | exact HB.out | apply bA | apply bN | apply bD | refine bS ?_ ‹_›) | exact HB.out))) : w.heap.size ≤ gb174)); have GE174 := GW174; have NB170_174 := nl BK170 hg; have NB174_170 := ng BK170 hg; replace BK170 := bb BK170 hb; replace HB := Aside0.mk (below_step (by repeat (first | (with_reducible first | exact HB.out | apply bA | apply bN | apply bD | refine bS ?_ ‹_›) | exact HB.out)) hb); clear hb hbox hg; have hnb20 := NB174_170.out; have hnc20 := NB170_174.out; have hcz21_0 : w19.cell? ⟨gb174, 0, none⟩ = some (.int .i64 0) := (blk_cell BK174.out 0).trans rfl; have hcz21_1 : w19.cell? ⟨gb174, 1, none⟩ = some (.int .i64 0) := (blk_cell BK174.out 1).trans rfl; have hcz21_2 : w19.cell? ⟨gb174, 2, none⟩ = some (.int .i64 0) := (blk_cell BK174.out 2).trans rfl; have hcz21_3 : w19.cell? ⟨gb174, 3, none⟩ = some (.int .i64 0) := (blk_cell BK174.out 3).trans rfl; have hfz21_0 := blk_frozen BK174.out 0; have hfz21_1 := blk_frozen BK174.out 1; have hfz21_2 := blk_frozen BK174.out 2; have hfz21_3 := blk_frozen BK174.out 3)))
         (try simp only [Act.put, List.setIfInBounds_toArray, List.set_cons_zero, List.set_cons_succ])
         go_cut [85] (fun v85 wc => ∃ (kq : Nat) (x85_16 : Bool), v85 = .bool x85_16 ∧ Aside0 (interchangeref13_Right.j2 kq x4_2 x85_16 l0_0 l0_1 ((rd_T29 l0_1 x4_2).f0) ((rd_T29 l0_1 x4_2).f1) ((rd_T29 l0_1 x4_2).f2) ((rd_T29 l0_1 x4_2).f3) = some r) ∧ Aside0 (kq ≤ k2) ∧ Aside0 (wc.heap[gb170]? = some (.cells #[(.slice A0_0 l0_0.length c0_0), (.slice (some ad173) l0_1.length c0_1)] 25 (0, 0))) ∧ Aside0 (wc.heap[gb174]? = some (.cells #[.int .i64 ((rd_T29 l0_1 x4_2).f0), .int .i64 ((rd_T29 l0_1 x4_2).f1), .int .i64 ((rd_T29 l0_1 x4_2).f2), .int .i64 ((rd_T29 l0_1 x4_2).f3)] 29 (0, 0))) ∧ Aside0 (Below w.heap.size w wc))
         case first =>
          have H := HC17.out
          clear HC17
          by_cases c22 : ((rd_T29 l0_1 x4_2).f0) < 0
          ·
           rw [if_pos c22] at H
           have c22b0 : decide (((rd_T29 l0_1 x4_2).f0) < 0) = true := decide_eq_true c22
           clear c22
           (first | rw [c22b0] | (simp only [i64_w, i32_w]; rw [c22b0]) | skip)
           have H' := Aside0.mk H
           clear H
           have hnb23 := NB174_170.out
           have hnc23 := NB170_174.out
           have hcz24_0 : w19.cell? ⟨gb174, 0, none⟩ = some (.int .i64 0) := (blk_cell BK174.out 0).trans rfl
           have hcz24_1 : w19.cell? ⟨gb174, 1, none⟩ = some (.int .i64 0) := (blk_cell BK174.out 1).trans rfl
           have hcz24_2 : w19.cell? ⟨gb174, 2, none⟩ = some (.int .i64 0) := (blk_cell BK174.out 2).trans rfl
           have hcz24_3 : w19.cell? ⟨gb174, 3, none⟩ = some (.int .i64 0) := (blk_cell BK174.out 3).trans rfl
           have hfz24_0 := blk_frozen BK174.out 0
           have hfz24_1 := blk_frozen BK174.out 1
           have hfz24_2 := blk_frozen BK174.out 2
           have hfz24_3 := blk_frozen BK174.out 3
           go_wp2
           repeat (go_quiet (fail); try go_wp2)
           go_meet
           case rel => exact ⟨_, (true), (by first | rfl | (simp; done) | (simp [*]; done)), H', ⟨by have := HK1.out; have := HK2.out; first | omega | exact Nat.le_refl _⟩, ⟨by (with_reducible repeat (first | refine blk_drewN ?_ _ | refine blk_drew ?_ | refine blk_alloc ?_ _)); refine blk_far ?_ NB170_174.out _; (with_reducible repeat (first | refine blk_drewN ?_ _ | refine blk_drew ?_ | refine blk_alloc ?_ _)); refine blk_far ?_ NB170_174.out _; (with_reducible repeat (first | refine blk_drewN ?_ _ | refine blk_drew ?_ | refine blk_alloc ?_ _)); refine blk_far ?_ NB170_174.out _; (with_reducible repeat (first | refine blk_drewN ?_ _ | refine blk_drew ?_ | refine blk_alloc ?_ _)); refine blk_far ?_ NB170_174.out _; (with_reducible repeat (first | refine blk_drewN ?_ _ | refine blk_drew ?_ | refine blk_alloc ?_ _)); exact BK170.out⟩, ⟨by (with_reducible repeat (first | refine blk_drewN ?_ _ | refine blk_drew ?_ | refine blk_alloc ?_ _)); refine blk_put (cs := #[.int .i64 ((rd_T29 l0_1 x4_2).f0), .int .i64 ((rd_T29 l0_1 x4_2).f1), .int .i64 ((rd_T29 l0_1 x4_2).f2), .int .i64 0]) ?_ 3 _ rfl; (with_reducible repeat (first | refine blk_drewN ?_ _ | refine blk_drew ?_ | refine blk_alloc ?_ _)); refine blk_put (cs := #[.int .i64 ((rd_T29 l0_1 x4_2).f0), .int .i64 ((rd_T29 l0_1 x4_2).f1), .int .i64 0, .int .i64 0]) ?_ 2 _ rfl; (with_reducible repeat (first | refine blk_drewN ?_ _ | refine blk_drew ?_ | refine blk_alloc ?_ _)); refine blk_put (cs := #[.int .i64 ((rd_T29 l0_1 x4_2).f0), .int .i64 0, .int .i64 0, .int .i64 0]) ?_ 1 _ rfl; (with_reducible repeat (first | refine blk_drewN ?_ _ | refine blk_drew ?_ | refine blk_alloc ?_ _)); refine blk_put (cs := #[.int .i64 0, .int .i64 0, .int .i64 0, .int .i64 0]) ?_ 0 _ rfl; (with_reducible repeat (first | refine blk_drewN ?_ _ | refine blk_drew ?_ | refine blk_alloc ?_ _)); exact BK174.out⟩, ⟨by repeat (first | (with_reducible first | exact HB.out | apply below_alloc | apply pw_below_drewN | apply below_drew1 | refine below_set ?_ GE170.out | refine below_set ?_ GE174.out) | exact HB.out)⟩⟩
          ·
           rw [if_neg c22] at H
           have c22b0 : decide (((rd_T29 l0_1 x4_2).f0) < 0) = false := decide_eq_false c22
           clear c22
           (first | rw [c22b0] | (simp only [i64_w, i32_w]; rw [c22b0]) | skip)
           by_cases c25 : ((rd_T29 l0_1 x4_2).f0) ≥ (l0_0.length : Int)
           ·
            rw [if_pos c25] at H
            have c25b0 : decide ((l0_0.length : Int) ≤ ((rd_T29 l0_1 x4_2).f0)) = true := decide_eq_true c25
            clear c25
            have H' := Aside0.mk H
            clear H
            have hnb26 := NB174_170.out
            have hnc26 := NB170_174.out
            have hcz27_0 : w19.cell? ⟨gb174, 0, none⟩ = some (.int .i64 0) := (blk_cell BK174.out 0).trans rfl
            have hcz27_1 : w19.cell? ⟨gb174, 1, none⟩ = some (.int .i64 0) := (blk_cell BK174.out 1).trans rfl
            have hcz27_2 : w19.cell? ⟨gb174, 2, none⟩ = some (.int .i64 0) := (blk_cell BK174.out 2).trans rfl
            have hcz27_3 : w19.cell? ⟨gb174, 3, none⟩ = some (.int .i64 0) := (blk_cell BK174.out 3).trans rfl
            have hfz27_0 := blk_frozen BK174.out 0
            have hfz27_1 := blk_frozen BK174.out 1
            have hfz27_2 := blk_frozen BK174.out 2
            have hfz27_3 := blk_frozen BK174.out 3
            have hcz28_0 : w19.cell? ⟨gb170, 0, none⟩ = some (.slice A0_0 l0_0.length c0_0) := (blk_cell BK170.out 0).trans rfl
            have hcz28_1 : w19.cell? ⟨gb170, 1, none⟩ = some (.slice (some ad173) l0_1.length c0_1) := (blk_cell BK170.out 1).trans rfl
            have hfz28_0 := blk_frozen BK170.out 0
            have hfz28_1 := blk_frozen BK170.out 1
            go_wp2
            repeat (go_quiet (fail); try go_wp2)
            go_meet
            case rel => exact ⟨_, (true), (by first | rfl | (simp; done) | (simp [*]; done)), H', ⟨by have := HK1.out; have := HK2.out; first | omega | exact Nat.le_refl _⟩, ⟨by (with_reducible repeat (first | refine blk_drewN ?_ _ | refine blk_drew ?_ | refine blk_alloc ?_ _)); refine blk_far ?_ NB170_174.out _; (with_reducible repeat (first | refine blk_drewN ?_ _ | refine blk_drew ?_ | refine blk_alloc ?_ _)); refine blk_far ?_ NB170_174.out _; (with_reducible repeat (first | refine blk_drewN ?_ _ | refine blk_drew ?_ | refine blk_alloc ?_ _)); refine blk_far ?_ NB170_174.out _; (with_reducible repeat (first | refine blk_drewN ?_ _ | refine blk_drew ?_ | refine blk_alloc ?_ _)); refine blk_far ?_ NB170_174.out _; (with_reducible repeat (first | refine blk_drewN ?_ _ | refine blk_drew ?_ | refine blk_alloc ?_ _)); exact BK170.out⟩, ⟨by (with_reducible repeat (first | refine blk_drewN ?_ _ | refine blk_drew ?_ | refine blk_alloc ?_ _)); refine blk_put (cs := #[.int .i64 ((rd_T29 l0_1 x4_2).f0), .int .i64 ((rd_T29 l0_1 x4_2).f1), .int .i64 ((rd_T29 l0_1 x4_2).f2), .int .i64 0]) ?_ 3 _ rfl; (with_reducible repeat (first | refine blk_drewN ?_ _ | refine blk_drew ?_ | refine blk_alloc ?_ _)); refine blk_put (cs := #[.int .i64 ((rd_T29 l0_1 x4_2).f0), .int .i64 ((rd_T29 l0_1 x4_2).f1), .int .i64 0, .int .i64 0]) ?_ 2 _ rfl; (with_reducible repeat (first | refine blk_drewN ?_ _ | refine blk_drew ?_ | refine blk_alloc ?_ _)); refine blk_put (cs := #[.int .i64 ((rd_T29 l0_1 x4_2).f0), .int .i64 0, .int .i64 0, .int .i64 0]) ?_ 1 _ rfl; (with_reducible repeat (first | refine blk_drewN ?_ _ | refine blk_drew ?_ | refine blk_alloc ?_ _)); refine blk_put (cs := #[.int .i64 0, .int .i64 0, .int .i64 0, .int .i64 0]) ?_ 0 _ rfl; (with_reducible repeat (first | refine blk_drewN ?_ _ | refine blk_drew ?_ | refine blk_alloc ?_ _)); exact BK174.out⟩, ⟨by repeat (first | (with_reducible first | exact HB.out | apply below_alloc | apply pw_below_drewN | apply below_drew1 | refine below_set ?_ GE170.out | refine below_set ?_ GE174.out) | exact HB.out)⟩⟩
           ·
            rw [if_neg c25] at H
            have c25b0 : decide ((l0_0.length : Int) ≤ ((rd_T29 l0_1 x4_2).f0)) = false := decide_eq_false c25
            clear c25
            by_cases c29 : ((rd_T29 l0_1 x4_2).f1) < 1
            ·
             rw [if_pos c29] at H
             have c29b0 : decide (((rd_T29 l0_1 x4_2).f1) < 1) = true := decide_eq_true c29
             clear c29
             have H' := Aside0.mk H
             clear H
             have hnb30 := NB174_170.out
             have hnc30 := NB170_174.out
             have hcz31_0 : w19.cell? ⟨gb174, 0, none⟩ = some (.int .i64 0) := (blk_cell BK174.out 0).trans rfl
             have hcz31_1 : w19.cell? ⟨gb174, 1, none⟩ = some (.int .i64 0) := (blk_cell BK174.out 1).trans rfl
             have hcz31_2 : w19.cell? ⟨gb174, 2, none⟩ = some (.int .i64 0) := (blk_cell BK174.out 2).trans rfl
             have hcz31_3 : w19.cell? ⟨gb174, 3, none⟩ = some (.int .i64 0) := (blk_cell BK174.out 3).trans rfl
             have hfz31_0 := blk_frozen BK174.out 0
             have hfz31_1 := blk_frozen BK174.out 1
             have hfz31_2 := blk_frozen BK174.out 2
             have hfz31_3 := blk_frozen BK174.out 3
             have hcz32_0 : w19.cell? ⟨gb170, 0, none⟩ = some (.slice A0_0 l0_0.length c0_0) := (blk_cell BK170.out 0).trans rfl
             have hcz32_1 : w19.cell? ⟨gb170, 1, none⟩ = some (.slice (some ad173) l0_1.length c0_1) := (blk_cell BK170.out 1).trans rfl
             have hfz32_0 := blk_frozen BK170.out 0
             have hfz32_1 := blk_frozen BK170.out 1
             go_wp2
             repeat (go_quiet (fail); try go_wp2)
             go_meet
             case rel => exact ⟨_, (true), (by first | rfl | (simp; done) | (simp [*]; done)), H', ⟨by have := HK1.out; have := HK2.out; first | omega | exact Nat.le_refl _⟩, ⟨by (with_reducible repeat (first | refine blk_drewN ?_ _ | refine blk_drew ?_ | refine blk_alloc ?_ _)); refine blk_far ?_ NB170_174.out _; (with_reducible repeat (first | refine blk_drewN ?_ _ | refine blk_drew ?_ | refine blk_alloc ?_ _)); refine blk_far ?_ NB170_174.out _; (with_reducible repeat (first | refine blk_drewN ?_ _ | refine blk_drew ?_ | refine blk_alloc ?_ _)); refine blk_far ?_ NB170_174.out _; (with_reducible repeat (first | refine blk_drewN ?_ _ | refine blk_drew ?_ | refine blk_alloc ?_ _)); refine blk_far ?_ NB170_174.out _; (with_reducible repeat (first | refine blk_drewN ?_ _ | refine blk_drew ?_ | refine blk_alloc ?_ _)); exact BK170.out⟩, ⟨by (with_reducible repeat (first | refine blk_drewN ?_ _ | refine blk_drew ?_ | refine blk_alloc ?_ _)); refine blk_put (cs := #[.int .i64 ((rd_T29 l0_1 x4_2).f0), .int .i64 ((rd_T29 l0_1 x4_2).f1), .int .i64 ((rd_T29 l0_1 x4_2).f2), .int .i64 0]) ?_ 3 _ rfl; (with_reducible repeat (first | refine blk_drewN ?_ _ | refine blk_drew ?_ | refine blk_alloc ?_ _)); refine blk_put (cs := #[.int .i64 ((rd_T29 l0_1 x4_2).f0), .int .i64 ((rd_T29 l0_1 x4_2).f1), .int .i64 0, .int .i64 0]) ?_ 2 _ rfl; (with_reducible repeat (first | refine blk_drewN ?_ _ | refine blk_drew ?_ | refine blk_alloc ?_ _)); refine blk_put (cs := #[.int .i64 ((rd_T29 l0_1 x4_2).f0), .int .i64 0, .int .i64 0, .int .i64 0]) ?_ 1 _ rfl; (with_reducible repeat (first | refine blk_drewN ?_ _ | refine blk_drew ?_ | refine blk_alloc ?_ _)); refine blk_put (cs := #[.int .i64 0, .int .i64 0, .int .i64 0, .int .i64 0]) ?_ 0 _ rfl; (with_reducible repeat (first | refine blk_drewN ?_ _ | refine blk_drew ?_ | refine blk_alloc ?_ _)); exact BK174.out⟩, ⟨by repeat (first | (with_reducible first | exact HB.out | apply below_alloc | apply pw_below_drewN | apply below_drew1 | refine below_set ?_ GE170.out | refine below_set ?_ GE174.out) | exact HB.out)⟩⟩
            ·
             rw [if_neg c29] at H
             have c29b0 : decide (((rd_T29 l0_1 x4_2).f1) < 1) = false := decide_eq_false c29
             clear c29
             by_cases c33 : 0 ≤ ((rd_T29 l0_1 x4_2).f0)
             ·
              rw [if_pos c33] at H
              have c33b0 : decide (0 ≤ ((rd_T29 l0_1 x4_2).f0)) = true := decide_eq_true c33
              clear c33
              by_cases c34 : ((rd_T29 l0_1 x4_2).f0) < (l0_0.length : Int)
              ·
               rw [if_pos c34] at H
               have c34b0 : decide (((rd_T29 l0_1 x4_2).f0) < (l0_0.length : Int)) = true := decide_eq_true c34
               clear c34
               by_cases c35 : ((rd_T29 l0_1 x4_2).f1) > (rd l0_0 ((rd_T29 l0_1 x4_2).f0))
               ·
                rw [if_pos c35] at H
                have c35b0 : decide ((rd l0_0 ((rd_T29 l0_1 x4_2).f0)) < ((rd_T29 l0_1 x4_2).f1)) = true := decide_eq_true c35
                clear c35
                have H' := Aside0.mk H
                clear H
                have hnb36 := NB174_170.out
                have hnc36 := NB170_174.out
                have hcz37_0 : w19.cell? ⟨gb174, 0, none⟩ = some (.int .i64 0) := (blk_cell BK174.out 0).trans rfl
                have hcz37_1 : w19.cell? ⟨gb174, 1, none⟩ = some (.int .i64 0) := (blk_cell BK174.out 1).trans rfl
                have hcz37_2 : w19.cell? ⟨gb174, 2, none⟩ = some (.int .i64 0) := (blk_cell BK174.out 2).trans rfl
                have hcz37_3 : w19.cell? ⟨gb174, 3, none⟩ = some (.int .i64 0) := (blk_cell BK174.out 3).trans rfl
                have hfz37_0 := blk_frozen BK174.out 0
                have hfz37_1 := blk_frozen BK174.out 1
                have hfz37_2 := blk_frozen BK174.out 2
                have hfz37_3 := blk_frozen BK174.out 3
                have hcz38_0 : w19.cell? ⟨gb170, 0, none⟩ = some (.slice A0_0 l0_0.length c0_0) := (blk_cell BK170.out 0).trans rfl
                have hcz38_1 : w19.cell? ⟨gb170, 1, none⟩ = some (.slice (some ad173) l0_1.length c0_1) := (blk_cell BK170.out 1).trans rfl
                have hfz38_0 := blk_frozen BK170.out 0
                have hfz38_1 := blk_frozen BK170.out 1
                have p175 : 0 ≤ (((rd_T29 l0_1 x4_2).f0) : Int) := of_decide_eq_true (by first | (with_reducible assumption) | assumption)
                have q175 : ((rd_T29 l0_1 x4_2).f0) < (l0_0.length : Int) := of_decide_eq_true (by first | (with_reducible assumption) | assumption)
                obtain ⟨ad175, e175, hx175_0⟩ := Kd.at_int HR0_0.out ((rd_T29 l0_1 x4_2).f0) p175 q175
                cases e175
                have hn175_0 : ad175.block ≠ gb174 := Nat.ne_of_lt (Nat.lt_of_lt_of_le (by have := World.block_lt_of_cell? _ _ hx175_0; first | rwa [add_block] at this | exact this) GW174.out)
                have hn175_1 : ad175.block ≠ gb174 := Nat.ne_of_lt (Nat.lt_of_lt_of_le (by have := World.block_lt_of_cell? _ _ hx175_0; first | rwa [add_block] at this | exact this) GW174.out)
                have hn175_2 : ad175.block ≠ gb174 := Nat.ne_of_lt (Nat.lt_of_lt_of_le (by have := World.block_lt_of_cell? _ _ hx175_0; first | rwa [add_block] at this | exact this) GW174.out)
                have hn175_3 : ad175.block ≠ gb174 := Nat.ne_of_lt (Nat.lt_of_lt_of_le (by have := World.block_lt_of_cell? _ _ hx175_0; first | rwa [add_block] at this | exact this) GW174.out)
                replace hx175_0 := (HB.out.cell (World.block_lt_of_cell? w _ hx175_0)).trans hx175_0
                replace hx175_0 := (cell_far (p := ⟨gb174, 0, none⟩) (by first | (rw [add_block]; exact hn175_0) | (show (Addr.add _ _).block ≠ _; rw [add_block]; exact hn175_0) | exact hn175_0) (.int .i64 ((rd_T29 l0_1 x4_2).f0))).trans hx175_0
                replace hx175_0 := (cell_far (p := ⟨gb174, 1, none⟩) (by first | (rw [add_block]; exact hn175_1) | (show (Addr.add _ _).block ≠ _; rw [add_block]; exact hn175_1) | exact hn175_1) (.int .i64 ((rd_T29 l0_1 x4_2).f1))).trans hx175_0
                replace hx175_0 := (cell_far (p := ⟨gb174, 2, none⟩) (by first | (rw [add_block]; exact hn175_2) | (show (Addr.add _ _).block ≠ _; rw [add_block]; exact hn175_2) | exact hn175_2) (.int .i64 ((rd_T29 l0_1 x4_2).f2))).trans hx175_0
                replace hx175_0 := (cell_far (p := ⟨gb174, 3, none⟩) (by first | (rw [add_block]; exact hn175_3) | (show (Addr.add _ _).block ≠ _; rw [add_block]; exact hn175_3) | exact hn175_3) (.int .i64 ((rd_T29 l0_1 x4_2).f3))).trans hx175_0
                (try have hy175_0 := fun (n_ : Nat) => (show ((((((w19.drewN n_).setCell ⟨gb174, 0, none⟩ (.int .i64 ((rd_T29 l0_1 x4_2).f0))).setCell ⟨gb174, 1, none⟩ (.int .i64 ((rd_T29 l0_1 x4_2).f1))).setCell ⟨gb174, 2, none⟩ (.int .i64 ((rd_T29 l0_1 x4_2).f2))).setCell ⟨gb174, 3, none⟩ (.int .i64 ((rd_T29 l0_1 x4_2).f3)))).cell? _ = some _ from hx175_0))
                clear hn175_0
                clear hn175_1
                clear hn175_2
                clear hn175_3
                replace p175 := eq_true p175
                replace q175 := eq_true q175
                go_wp2
                repeat (go_quiet (fail); try go_wp2)
                go_meet
                case rel => exact ⟨_, (true), (by first | rfl | (simp; done) | (simp [*]; done)), H', ⟨by have := HK1.out; have := HK2.out; first | omega | exact Nat.le_refl _⟩, ⟨by (with_reducible repeat (first | refine blk_drewN ?_ _ | refine blk_drew ?_ | refine blk_alloc ?_ _)); refine blk_far ?_ NB170_174.out _; (with_reducible repeat (first | refine blk_drewN ?_ _ | refine blk_drew ?_ | refine blk_alloc ?_ _)); refine blk_far ?_ NB170_174.out _; (with_reducible repeat (first | refine blk_drewN ?_ _ | refine blk_drew ?_ | refine blk_alloc ?_ _)); refine blk_far ?_ NB170_174.out _; (with_reducible repeat (first | refine blk_drewN ?_ _ | refine blk_drew ?_ | refine blk_alloc ?_ _)); refine blk_far ?_ NB170_174.out _; (with_reducible repeat (first | refine blk_drewN ?_ _ | refine blk_drew ?_ | refine blk_alloc ?_ _)); exact BK170.out⟩, ⟨by (with_reducible repeat (first | refine blk_drewN ?_ _ | refine blk_drew ?_ | refine blk_alloc ?_ _)); refine blk_put (cs := #[.int .i64 ((rd_T29 l0_1 x4_2).f0), .int .i64 ((rd_T29 l0_1 x4_2).f1), .int .i64 ((rd_T29 l0_1 x4_2).f2), .int .i64 0]) ?_ 3 _ rfl; (with_reducible repeat (first | refine blk_drewN ?_ _ | refine blk_drew ?_ | refine blk_alloc ?_ _)); refine blk_put (cs := #[.int .i64 ((rd_T29 l0_1 x4_2).f0), .int .i64 ((rd_T29 l0_1 x4_2).f1), .int .i64 0, .int .i64 0]) ?_ 2 _ rfl; (with_reducible repeat (first | refine blk_drewN ?_ _ | refine blk_drew ?_ | refine blk_alloc ?_ _)); refine blk_put (cs := #[.int .i64 ((rd_T29 l0_1 x4_2).f0), .int .i64 0, .int .i64 0, .int .i64 0]) ?_ 1 _ rfl; (with_reducible repeat (first | refine blk_drewN ?_ _ | refine blk_drew ?_ | refine blk_alloc ?_ _)); refine blk_put (cs := #[.int .i64 0, .int .i64 0, .int .i64 0, .int .i64 0]) ?_ 0 _ rfl; (with_reducible repeat (first | refine blk_drewN ?_ _ | refine blk_drew ?_ | refine blk_alloc ?_ _)); exact BK174.out⟩, ⟨by repeat (first | (with_reducible first | exact HB.out | apply below_alloc | apply pw_below_drewN | apply below_drew1 | refine below_set ?_ GE170.out | refine below_set ?_ GE174.out) | exact HB.out)⟩⟩
               ·
                rw [if_neg c35] at H
                have c35b0 : decide ((rd l0_0 ((rd_T29 l0_1 x4_2).f0)) < ((rd_T29 l0_1 x4_2).f1)) = false := decide_eq_false c35
                clear c35
                by_cases c39 : ((rd_T29 l0_1 x4_2).f2) < 1
                ·
                 rw [if_pos c39] at H
                 have c39b0 : decide (((rd_T29 l0_1 x4_2).f2) < 1) = true := decide_eq_true c39
                 clear c39
                 have H' := Aside0.mk H
                 clear H
                 have hnb40 := NB174_170.out
                 have hnc40 := NB170_174.out
                 have hcz41_0 : w19.cell? ⟨gb174, 0, none⟩ = some (.int .i64 0) := (blk_cell BK174.out 0).trans rfl
                 have hcz41_1 : w19.cell? ⟨gb174, 1, none⟩ = some (.int .i64 0) := (blk_cell BK174.out 1).trans rfl
                 have hcz41_2 : w19.cell? ⟨gb174, 2, none⟩ = some (.int .i64 0) := (blk_cell BK174.out 2).trans rfl
                 have hcz41_3 : w19.cell? ⟨gb174, 3, none⟩ = some (.int .i64 0) := (blk_cell BK174.out 3).trans rfl
                 have hfz41_0 := blk_frozen BK174.out 0
                 have hfz41_1 := blk_frozen BK174.out 1
                 have hfz41_2 := blk_frozen BK174.out 2
                 have hfz41_3 := blk_frozen BK174.out 3
                 have hcz42_0 : w19.cell? ⟨gb170, 0, none⟩ = some (.slice A0_0 l0_0.length c0_0) := (blk_cell BK170.out 0).trans rfl
                 have hcz42_1 : w19.cell? ⟨gb170, 1, none⟩ = some (.slice (some ad173) l0_1.length c0_1) := (blk_cell BK170.out 1).trans rfl
                 have hfz42_0 := blk_frozen BK170.out 0
                 have hfz42_1 := blk_frozen BK170.out 1
                 have p175 : 0 ≤ (((rd_T29 l0_1 x4_2).f0) : Int) := of_decide_eq_true (by first | (with_reducible assumption) | assumption)
                 have q175 : ((rd_T29 l0_1 x4_2).f0) < (l0_0.length : Int) := of_decide_eq_true (by first | (with_reducible assumption) | assumption)
                 obtain ⟨ad175, e175, hx175_0⟩ := Kd.at_int HR0_0.out ((rd_T29 l0_1 x4_2).f0) p175 q175
                 cases e175
                 have hn175_0 : ad175.block ≠ gb174 := Nat.ne_of_lt (Nat.lt_of_lt_of_le (by have := World.block_lt_of_cell? _ _ hx175_0; first | rwa [add_block] at this | exact this) GW174.out)
                 have hn175_1 : ad175.block ≠ gb174 := Nat.ne_of_lt (Nat.lt_of_lt_of_le (by have := World.block_lt_of_cell? _ _ hx175_0; first | rwa [add_block] at this | exact this) GW174.out)
                 have hn175_2 : ad175.block ≠ gb174 := Nat.ne_of_lt (Nat.lt_of_lt_of_le (by have := World.block_lt_of_cell? _ _ hx175_0; first | rwa [add_block] at this | exact this) GW174.out)
                 have hn175_3 : ad175.block ≠ gb174 := Nat.ne_of_lt (Nat.lt_of_lt_of_le (by have := World.block_lt_of_cell? _ _ hx175_0; first | rwa [add_block] at this | exact this) GW174.out)
                 replace hx175_0 := (HB.out.cell (World.block_lt_of_cell? w _ hx175_0)).trans hx175_0
                 replace hx175_0 := (cell_far (p := ⟨gb174, 0, none⟩) (by first | (rw [add_block]; exact hn175_0) | (show (Addr.add _ _).block ≠ _; rw [add_block]; exact hn175_0) | exact hn175_0) (.int .i64 ((rd_T29 l0_1 x4_2).f0))).trans hx175_0
                 replace hx175_0 := (cell_far (p := ⟨gb174, 1, none⟩) (by first | (rw [add_block]; exact hn175_1) | (show (Addr.add _ _).block ≠ _; rw [add_block]; exact hn175_1) | exact hn175_1) (.int .i64 ((rd_T29 l0_1 x4_2).f1))).trans hx175_0
                 replace hx175_0 := (cell_far (p := ⟨gb174, 2, none⟩) (by first | (rw [add_block]; exact hn175_2) | (show (Addr.add _ _).block ≠ _; rw [add_block]; exact hn175_2) | exact hn175_2) (.int .i64 ((rd_T29 l0_1 x4_2).f2))).trans hx175_0
                 replace hx175_0 := (cell_far (p := ⟨gb174, 3, none⟩) (by first | (rw [add_block]; exact hn175_3) | (show (Addr.add _ _).block ≠ _; rw [add_block]; exact hn175_3) | exact hn175_3) (.int .i64 ((rd_T29 l0_1 x4_2).f3))).trans hx175_0
                 (try have hy175_0 := fun (n_ : Nat) => (show ((((((w19.drewN n_).setCell ⟨gb174, 0, none⟩ (.int .i64 ((rd_T29 l0_1 x4_2).f0))).setCell ⟨gb174, 1, none⟩ (.int .i64 ((rd_T29 l0_1 x4_2).f1))).setCell ⟨gb174, 2, none⟩ (.int .i64 ((rd_T29 l0_1 x4_2).f2))).setCell ⟨gb174, 3, none⟩ (.int .i64 ((rd_T29 l0_1 x4_2).f3)))).cell? _ = some _ from hx175_0))
                 clear hn175_0
                 clear hn175_1
                 clear hn175_2
                 clear hn175_3
                 replace p175 := eq_true p175
                 replace q175 := eq_true q175
                 go_wp2
                 repeat (go_quiet (fail); try go_wp2)
                 go_meet
                 case rel => exact ⟨_, (true), (by first | rfl | (simp; done) | (simp [*]; done)), H', ⟨by have := HK1.out; have := HK2.out; first | omega | exact Nat.le_refl _⟩, ⟨by (with_reducible repeat (first | refine blk_drewN ?_ _ | refine blk_drew ?_ | refine blk_alloc ?_ _)); refine blk_far ?_ NB170_174.out _; (with_reducible repeat (first | refine blk_drewN ?_ _ | refine blk_drew ?_ | refine blk_alloc ?_ _)); refine blk_far ?_ NB170_174.out _; (with_reducible repeat (first | refine blk_drewN ?_ _ | refine blk_drew ?_ | refine blk_alloc ?_ _)); refine blk_far ?_ NB170_174.out _; (with_reducible repeat (first | refine blk_drewN ?_ _ | refine blk_drew ?_ | refine blk_alloc ?_ _)); refine blk_far ?_ NB170_174.out _; (with_reducible repeat (first | refine blk_drewN ?_ _ | refine blk_drew ?_ | refine blk_alloc ?_ _)); exact BK170.out⟩, ⟨by (with_reducible repeat (first | refine blk_drewN ?_ _ | refine blk_drew ?_ | refine blk_alloc ?_ _)); refine blk_put (cs := #[.int .i64 ((rd_T29 l0_1 x4_2).f0), .int .i64 ((rd_T29 l0_1 x4_2).f1), .int .i64 ((rd_T29 l0_1 x4_2).f2), .int .i64 0]) ?_ 3 _ rfl; (with_reducible repeat (first | refine blk_drewN ?_ _ | refine blk_drew ?_ | refine blk_alloc ?_ _)); refine blk_put (cs := #[.int .i64 ((rd_T29 l0_1 x4_2).f0), .int .i64 ((rd_T29 l0_1 x4_2).f1), .int .i64 0, .int .i64 0]) ?_ 2 _ rfl; (with_reducible repeat (first | refine blk_drewN ?_ _ | refine blk_drew ?_ | refine blk_alloc ?_ _)); refine blk_put (cs := #[.int .i64 ((rd_T29 l0_1 x4_2).f0), .int .i64 0, .int .i64 0, .int .i64 0]) ?_ 1 _ rfl; (with_reducible repeat (first | refine blk_drewN ?_ _ | refine blk_drew ?_ | refine blk_alloc ?_ _)); refine blk_put (cs := #[.int .i64 0, .int .i64 0, .int .i64 0, .int .i64 0]) ?_ 0 _ rfl; (with_reducible repeat (first | refine blk_drewN ?_ _ | refine blk_drew ?_ | refine blk_alloc ?_ _)); exact BK174.out⟩, ⟨by repeat (first | (with_reducible first | exact HB.out | apply below_alloc | apply pw_below_drewN | apply below_drew1 | refine below_set ?_ GE170.out | refine below_set ?_ GE174.out) | exact HB.out)⟩⟩
                ·
                 rw [if_neg c39] at H
                 have c39b0 : decide (((rd_T29 l0_1 x4_2).f2) < 1) = false := decide_eq_false c39
                 clear c39
                 by_cases c43 : ((rd_T29 l0_1 x4_2).f2) > 3
                 ·
                  rw [if_pos c43] at H
                  have c43b0 : decide (3 < ((rd_T29 l0_1 x4_2).f2)) = true := decide_eq_true c43
                  clear c43
                  have H' := Aside0.mk H
                  clear H
                  have hnb44 := NB174_170.out
                  have hnc44 := NB170_174.out
                  have hcz45_0 : w19.cell? ⟨gb174, 0, none⟩ = some (.int .i64 0) := (blk_cell BK174.out 0).trans rfl
                  have hcz45_1 : w19.cell? ⟨gb174, 1, none⟩ = some (.int .i64 0) := (blk_cell BK174.out 1).trans rfl
                  have hcz45_2 : w19.cell? ⟨gb174, 2, none⟩ = some (.int .i64 0) := (blk_cell BK174.out 2).trans rfl
                  have hcz45_3 : w19.cell? ⟨gb174, 3, none⟩ = some (.int .i64 0) := (blk_cell BK174.out 3).trans rfl
                  have hfz45_0 := blk_frozen BK174.out 0
                  have hfz45_1 := blk_frozen BK174.out 1
                  have hfz45_2 := blk_frozen BK174.out 2
                  have hfz45_3 := blk_frozen BK174.out 3
                  have hcz46_0 : w19.cell? ⟨gb170, 0, none⟩ = some (.slice A0_0 l0_0.length c0_0) := (blk_cell BK170.out 0).trans rfl
                  have hcz46_1 : w19.cell? ⟨gb170, 1, none⟩ = some (.slice (some ad173) l0_1.length c0_1) := (blk_cell BK170.out 1).trans rfl
                  have hfz46_0 := blk_frozen BK170.out 0
                  have hfz46_1 := blk_frozen BK170.out 1
                  have p175 : 0 ≤ (((rd_T29 l0_1 x4_2).f0) : Int) := of_decide_eq_true (by first | (with_reducible assumption) | assumption)
                  have q175 : ((rd_T29 l0_1 x4_2).f0) < (l0_0.length : Int) := of_decide_eq_true (by first | (with_reducible assumption) | assumption)
                  obtain ⟨ad175, e175, hx175_0⟩ := Kd.at_int HR0_0.out ((rd_T29 l0_1 x4_2).f0) p175 q175
                  cases e175
                  have hn175_0 : ad175.block ≠ gb174 := Nat.ne_of_lt (Nat.lt_of_lt_of_le (by have := World.block_lt_of_cell? _ _ hx175_0; first | rwa [add_block] at this | exact this) GW174.out)
                  have hn175_1 : ad175.block ≠ gb174 := Nat.ne_of_lt (Nat.lt_of_lt_of_le (by have := World.block_lt_of_cell? _ _ hx175_0; first | rwa [add_block] at this | exact this) GW174.out)
                  have hn175_2 : ad175.block ≠ gb174 := Nat.ne_of_lt (Nat.lt_of_lt_of_le (by have := World.block_lt_of_cell? _ _ hx175_0; first | rwa [add_block] at this | exact this) GW174.out)
                  have hn175_3 : ad175.block ≠ gb174 := Nat.ne_of_lt (Nat.lt_of_lt_of_le (by have := World.block_lt_of_cell? _ _ hx175_0; first | rwa [add_block] at this | exact this) GW174.out)
                  replace hx175_0 := (HB.out.cell (World.block_lt_of_cell? w _ hx175_0)).trans hx175_0
                  replace hx175_0 := (cell_far (p := ⟨gb174, 0, none⟩) (by first | (rw [add_block]; exact hn175_0) | (show (Addr.add _ _).block ≠ _; rw [add_block]; exact hn175_0) | exact hn175_0) (.int .i64 ((rd_T29 l0_1 x4_2).f0))).trans hx175_0
                  replace hx175_0 := (cell_far (p := ⟨gb174, 1, none⟩) (by first | (rw [add_block]; exact hn175_1) | (show (Addr.add _ _).block ≠ _; rw [add_block]; exact hn175_1) | exact hn175_1) (.int .i64 ((rd_T29 l0_1 x4_2).f1))).trans hx175_0
                  replace hx175_0 := (cell_far (p := ⟨gb174, 2, none⟩) (by first | (rw [add_block]; exact hn175_2) | (show (Addr.add _ _).block ≠ _; rw [add_block]; exact hn175_2) | exact hn175_2) (.int .i64 ((rd_T29 l0_1 x4_2).f2))).trans hx175_0
                  replace hx175_0 := (cell_far (p := ⟨gb174, 3, none⟩) (by first | (rw [add_block]; exact hn175_3) | (show (Addr.add _ _).block ≠ _; rw [add_block]; exact hn175_3) | exact hn175_3) (.int .i64 ((rd_T29 l0_1 x4_2).f3))).trans hx175_0
                  (try have hy175_0 := fun (n_ : Nat) => (show ((((((w19.drewN n_).setCell ⟨gb174, 0, none⟩ (.int .i64 ((rd_T29 l0_1 x4_2).f0))).setCell ⟨gb174, 1, none⟩ (.int .i64 ((rd_T29 l0_1 x4_2).f1))).setCell ⟨gb174, 2, none⟩ (.int .i64 ((rd_T29 l0_1 x4_2).f2))).setCell ⟨gb174, 3, none⟩ (.int .i64 ((rd_T29 l0_1 x4_2).f3)))).cell? _ = some _ from hx175_0))
                  clear hn175_0
                  clear hn175_1
                  clear hn175_2
                  clear hn175_3
                  replace p175 := eq_true p175
                  replace q175 := eq_true q175
                  go_wp2
                  repeat (go_quiet (fail); try go_wp2)
                  go_meet
                  case rel => exact ⟨_, (true), (by first | rfl | (simp; done) | (simp [*]; done)), H', ⟨by have := HK1.out; have := HK2.out; first | omega | exact Nat.le_refl _⟩, ⟨by (with_reducible repeat (first | refine blk_drewN ?_ _ | refine blk_drew ?_ | refine blk_alloc ?_ _)); refine blk_far ?_ NB170_174.out _; (with_reducible repeat (first | refine blk_drewN ?_ _ | refine blk_drew ?_ | refine blk_alloc ?_ _)); refine blk_far ?_ NB170_174.out _; (with_reducible repeat (first | refine blk_drewN ?_ _ | refine blk_drew ?_ | refine blk_alloc ?_ _)); refine blk_far ?_ NB170_174.out _; (with_reducible repeat (first | refine blk_drewN ?_ _ | refine blk_drew ?_ | refine blk_alloc ?_ _)); refine blk_far ?_ NB170_174.out _; (with_reducible repeat (first | refine blk_drewN ?_ _ | refine blk_drew ?_ | refine blk_alloc ?_ _)); exact BK170.out⟩, ⟨by (with_reducible repeat (first | refine blk_drewN ?_ _ | refine blk_drew ?_ | refine blk_alloc ?_ _)); refine blk_put (cs := #[.int .i64 ((rd_T29 l0_1 x4_2).f0), .int .i64 ((rd_T29 l0_1 x4_2).f1), .int .i64 ((rd_T29 l0_1 x4_2).f2), .int .i64 0]) ?_ 3 _ rfl; (with_reducible repeat (first | refine blk_drewN ?_ _ | refine blk_drew ?_ | refine blk_alloc ?_ _)); refine blk_put (cs := #[.int .i64 ((rd_T29 l0_1 x4_2).f0), .int .i64 ((rd_T29 l0_1 x4_2).f1), .int .i64 0, .int .i64 0]) ?_ 2 _ rfl; (with_reducible repeat (first | refine blk_drewN ?_ _ | refine blk_drew ?_ | refine blk_alloc ?_ _)); refine blk_put (cs := #[.int .i64 ((rd_T29 l0_1 x4_2).f0), .int .i64 0, .int .i64 0, .int .i64 0]) ?_ 1 _ rfl; (with_reducible repeat (first | refine blk_drewN ?_ _ | refine blk_drew ?_ | refine blk_alloc ?_ _)); refine blk_put (cs := #[.int .i64 0, .int .i64 0, .int .i64 0, .int .i64 0]) ?_ 0 _ rfl; (with_reducible repeat (first | refine blk_drewN ?_ _ | refine blk_drew ?_ | refine blk_alloc ?_ _)); exact BK174.out⟩, ⟨by repeat (first | (with_reducible first | exact HB.out | apply below_alloc | apply pw_below_drewN | apply below_drew1 | refine below_set ?_ GE170.out | refine below_set ?_ GE174.out) | exact HB.out)⟩⟩
                 ·
                  rw [if_neg c43] at H
                  have c43b0 : decide (3 < ((rd_T29 l0_1 x4_2).f2)) = false := decide_eq_false c43
                  clear c43
                  have H' := Aside0.mk H
                  clear H
                  have hnb47 := NB174_170.out
                  have hnc47 := NB170_174.out
                  have hcz48_0 : w19.cell? ⟨gb174, 0, none⟩ = some (.int .i64 0) := (blk_cell BK174.out 0).trans rfl
                  have hcz48_1 : w19.cell? ⟨gb174, 1, none⟩ = some (.int .i64 0) := (blk_cell BK174.out 1).trans rfl
                  have hcz48_2 : w19.cell? ⟨gb174, 2, none⟩ = some (.int .i64 0) := (blk_cell BK174.out 2).trans rfl
                  have hcz48_3 : w19.cell? ⟨gb174, 3, none⟩ = some (.int .i64 0) := (blk_cell BK174.out 3).trans rfl
                  have hfz48_0 := blk_frozen BK174.out 0
                  have hfz48_1 := blk_frozen BK174.out 1
                  have hfz48_2 := blk_frozen BK174.out 2
                  have hfz48_3 := blk_frozen BK174.out 3
                  have hcz49_0 : w19.cell? ⟨gb170, 0, none⟩ = some (.slice A0_0 l0_0.length c0_0) := (blk_cell BK170.out 0).trans rfl
                  have hcz49_1 : w19.cell? ⟨gb170, 1, none⟩ = some (.slice (some ad173) l0_1.length c0_1) := (blk_cell BK170.out 1).trans rfl
                  have hfz49_0 := blk_frozen BK170.out 0
                  have hfz49_1 := blk_frozen BK170.out 1
                  have p175 : 0 ≤ (((rd_T29 l0_1 x4_2).f0) : Int) := of_decide_eq_true (by first | (with_reducible assumption) | assumption)
                  have q175 : ((rd_T29 l0_1 x4_2).f0) < (l0_0.length : Int) := of_decide_eq_true (by first | (with_reducible assumption) | assumption)
                  obtain ⟨ad175, e175, hx175_0⟩ := Kd.at_int HR0_0.out ((rd_T29 l0_1 x4_2).f0) p175 q175
                  cases e175
                  have hn175_0 : ad175.block ≠ gb174 := Nat.ne_of_lt (Nat.lt_of_lt_of_le (by have := World.block_lt_of_cell? _ _ hx175_0; first | rwa [add_block] at this | exact this) GW174.out)
                  have hn175_1 : ad175.block ≠ gb174 := Nat.ne_of_lt (Nat.lt_of_lt_of_le (by have := World.block_lt_of_cell? _ _ hx175_0; first | rwa [add_block] at this | exact this) GW174.out)
                  have hn175_2 : ad175.block ≠ gb174 := Nat.ne_of_lt (Nat.lt_of_lt_of_le (by have := World.block_lt_of_cell? _ _ hx175_0; first | rwa [add_block] at this | exact this) GW174.out)
                  have hn175_3 : ad175.block ≠ gb174 := Nat.ne_of_lt (Nat.lt_of_lt_of_le (by have := World.block_lt_of_cell? _ _ hx175_0; first | rwa [add_block] at this | exact this) GW174.out)
                  replace hx175_0 := (HB.out.cell (World.block_lt_of_cell? w _ hx175_0)).trans hx175_0
                  replace hx175_0 := (cell_far (p := ⟨gb174, 0, none⟩) (by first | (rw [add_block]; exact hn175_0) | (show (Addr.add _ _).block ≠ _; rw [add_block]; exact hn175_0) | exact hn175_0) (.int .i64 ((rd_T29 l0_1 x4_2).f0))).trans hx175_0
                  replace hx175_0 := (cell_far (p := ⟨gb174, 1, none⟩) (by first | (rw [add_block]; exact hn175_1) | (show (Addr.add _ _).block ≠ _; rw [add_block]; exact hn175_1) | exact hn175_1) (.int .i64 ((rd_T29 l0_1 x4_2).f1))).trans hx175_0
                  replace hx175_0 := (cell_far (p := ⟨gb174, 2, none⟩) (by first | (rw [add_block]; exact hn175_2) | (show (Addr.add _ _).block ≠ _; rw [add_block]; exact hn175_2) | exact hn175_2) (.int .i64 ((rd_T29 l0_1 x4_2).f2))).trans hx175_0
                  replace hx175_0 := (cell_far (p := ⟨gb174, 3, none⟩) (by first | (rw [add_block]; exact hn175_3) | (show (Addr.add _ _).block ≠ _; rw [add_block]; exact hn175_3) | exact hn175_3) (.int .i64 ((rd_T29 l0_1 x4_2).f3))).trans hx175_0
                  (try have hy175_0 := fun (n_ : Nat) => (show ((((((w19.drewN n_).setCell ⟨gb174, 0, none⟩ (.int .i64 ((rd_T29 l0_1 x4_2).f0))).setCell ⟨gb174, 1, none⟩ (.int .i64 ((rd_T29 l0_1 x4_2).f1))).setCell ⟨gb174, 2, none⟩ (.int .i64 ((rd_T29 l0_1 x4_2).f2))).setCell ⟨gb174, 3, none⟩ (.int .i64 ((rd_T29 l0_1 x4_2).f3)))).cell? _ = some _ from hx175_0))
                  clear hn175_0
                  clear hn175_1
                  clear hn175_2
                  clear hn175_3
                  replace p175 := eq_true p175
                  replace q175 := eq_true q175
                  go_wp2
                  repeat (go_quiet (fail); try go_wp2)
                  go_meet
                  case rel => exact ⟨_, (decide (((rd_T29 l0_1 x4_2).f3) < 0)), (by first | rfl | (simp; done) | (simp [*]; done)), H', ⟨by have := HK1.out; have := HK2.out; first | omega | exact Nat.le_refl _⟩, ⟨by (with_reducible repeat (first | refine blk_drewN ?_ _ | refine blk_drew ?_ | refine blk_alloc ?_ _)); refine blk_far ?_ NB170_174.out _; (with_reducible repeat (first | refine blk_drewN ?_ _ | refine blk_drew ?_ | refine blk_alloc ?_ _)); refine blk_far ?_ NB170_174.out _; (with_reducible repeat (first | refine blk_drewN ?_ _ | refine blk_drew ?_ | refine blk_alloc ?_ _)); refine blk_far ?_ NB170_174.out _; (with_reducible repeat (first | refine blk_drewN ?_ _ | refine blk_drew ?_ | refine blk_alloc ?_ _)); refine blk_far ?_ NB170_174.out _; (with_reducible repeat (first | refine blk_drewN ?_ _ | refine blk_drew ?_ | refine blk_alloc ?_ _)); exact BK170.out⟩, ⟨by (with_reducible repeat (first | refine blk_drewN ?_ _ | refine blk_drew ?_ | refine blk_alloc ?_ _)); refine blk_put (cs := #[.int .i64 ((rd_T29 l0_1 x4_2).f0), .int .i64 ((rd_T29 l0_1 x4_2).f1), .int .i64 ((rd_T29 l0_1 x4_2).f2), .int .i64 0]) ?_ 3 _ rfl; (with_reducible repeat (first | refine blk_drewN ?_ _ | refine blk_drew ?_ | refine blk_alloc ?_ _)); refine blk_put (cs := #[.int .i64 ((rd_T29 l0_1 x4_2).f0), .int .i64 ((rd_T29 l0_1 x4_2).f1), .int .i64 0, .int .i64 0]) ?_ 2 _ rfl; (with_reducible repeat (first | refine blk_drewN ?_ _ | refine blk_drew ?_ | refine blk_alloc ?_ _)); refine blk_put (cs := #[.int .i64 ((rd_T29 l0_1 x4_2).f0), .int .i64 0, .int .i64 0, .int .i64 0]) ?_ 1 _ rfl; (with_reducible repeat (first | refine blk_drewN ?_ _ | refine blk_drew ?_ | refine blk_alloc ?_ _)); refine blk_put (cs := #[.int .i64 0, .int .i64 0, .int .i64 0, .int .i64 0]) ?_ 0 _ rfl; (with_reducible repeat (first | refine blk_drewN ?_ _ | refine blk_drew ?_ | refine blk_alloc ?_ _)); exact BK174.out⟩, ⟨by repeat (first | (with_reducible first | exact HB.out | apply below_alloc | apply pw_below_drewN | apply below_drew1 | refine below_set ?_ GE170.out | refine below_set ?_ GE174.out) | exact HB.out)⟩⟩
              ·
               rw [if_neg c34] at H
               exact absurd H (by simp)
             ·
              rw [if_neg c33] at H
              exact absurd H (by simp)
         case rest =>
          clear HC17
          (try clear c1); (try clear p1); (try clear q1); (try clear hx1); (try clear c2); (try clear c2b0); (try clear c2b1); (try clear p2); (try clear c3); (try clear c4); (try clear p6); (try clear c7); (try clear c7b0); (try clear c8); (try clear c8b0); (try clear c9); (try clear c9b0); (try clear c11); (try clear c11b0); (try clear c15); (try clear c15b0); (try clear c16); (try clear c16b0); (try clear p17); (try clear q17); (try clear hx17); (try clear c20); (try clear c22); (try clear c22b0); (try clear c23); (try clear c25); (try clear c25b0); (try clear c26); (try clear c27); (try clear c29); (try clear c29b0); (try clear c30); (try clear c33); (try clear c33b0); (try clear c34); (try clear c34b0); (try clear c35); (try clear c35b0); (try clear c36); (try clear c39); (try clear c39b0); (try clear c40); (try clear c43); (try clear c43b0); (try clear c44); (try clear c47); (try clear hcz10_0); (try clear hcz10_1); (try clear hcz12_0); (try clear hcz12_1); (try clear hcz13_0); (try clear hcz13_1); (try clear hcz14_0); (try clear hcz14_1); (try clear hcz18_0); (try clear hcz18_1); (try clear hcz21_0); (try clear hcz21_1); (try clear hcz21_2); (try clear hcz21_3); (try clear hcz24_0); (try clear hcz24_1); (try clear hcz24_2); (try clear hcz24_3); (try clear hcz27_0); (try clear hcz27_1); (try clear hcz27_2); (try clear hcz27_3); (try clear hcz28_0); (try clear hcz28_1); (try clear hcz31_0); (try clear hcz31_1); (try clear hcz31_2); (try clear hcz31_3); (try clear hcz32_0); (try clear hcz32_1); (try clear hcz37_0); (try clear hcz37_1); (try clear hcz37_2); (try clear hcz37_3); (try clear hcz38_0); (try clear hcz38_1); (try clear hcz41_0); (try clear hcz41_1); (try clear hcz41_2); (try clear hcz41_3); (try clear hcz42_0); (try clear hcz42_1); (try clear hcz45_0); (try clear hcz45_1); (try clear hcz45_2); (try clear hcz45_3); (try clear hcz46_0); (try clear hcz46_1); (try clear hcz48_0); (try clear hcz48_1); (try clear hcz48_2); (try clear hcz48_3); (try clear hcz49_0); (try clear hcz49_1); (try clear hcz4_0); (try clear hcz4_1); (try clear hcz6_0); (try clear hcz6_1); (try clear hfz10_0); (try clear hfz10_1); (try clear hfz12_0); (try clear hfz12_1); (try clear hfz13_0); (try clear hfz13_1); (try clear hfz14_0); (try clear hfz14_1); (try clear hfz18_0); (try clear hfz18_1); (try clear hfz21_0); (try clear hfz21_1); (try clear hfz21_2); (try clear hfz21_3); (try clear hfz24_0); (try clear hfz24_1); (try clear hfz24_2); (try clear hfz24_3); (try clear hfz27_0); (try clear hfz27_1); (try clear hfz27_2); (try clear hfz27_3); (try clear hfz28_0); (try clear hfz28_1); (try clear hfz31_0); (try clear hfz31_1); (try clear hfz31_2); (try clear hfz31_3); (try clear hfz32_0); (try clear hfz32_1); (try clear hfz37_0); (try clear hfz37_1); (try clear hfz37_2); (try clear hfz37_3); (try clear hfz38_0); (try clear hfz38_1); (try clear hfz41_0); (try clear hfz41_1); (try clear hfz41_2); (try clear hfz41_3); (try clear hfz42_0); (try clear hfz42_1); (try clear hfz45_0); (try clear hfz45_1); (try clear hfz45_2); (try clear hfz45_3); (try clear hfz46_0); (try clear hfz46_1); (try clear hfz48_0); (try clear hfz48_1); (try clear hfz48_2); (try clear hfz48_3); (try clear hfz49_0); (try clear hfz49_1); (try clear hfz4_0); (try clear hfz4_1); (try clear hfz6_0); (try clear hfz6_1); (try clear hx171_0); (try clear hx172_0); (try clear hx173_0); (try clear hx173_1); (try clear hx173_2); (try clear hx173_3); (try clear hx175_0); (try clear p1); (try clear p171); (try clear p172); (try clear p173); (try clear p175); (try clear p2); (try clear p6); (try clear q1); (try clear q171); (try clear q172); (try clear q173); (try clear q175)
          obtain ⟨kq, x85_16, rfl, HA, HJ16, BK170, BK174, HB⟩ := hcut
          cases kq with
          | zero => exact absurd HA.out (by simp [interchangeref13_Right.j2])
          | succ kj16 =>
           have H := HA.out
           clear HA
           simp only [interchangeref13_Right.j2] at H
           by_cases c50 : x85_16 = true
           ·
            subst c50
            have H1 : (some false) = some r := by rw [if_pos rfl] at H; exact H
            clear H
            have H := H1
            clear H1
            obtain rfl := Option.some.inj H
            go_wp2
            repeat (go_quiet (fail); try go_wp2)
            go_ret
            exact ⟨by first | rfl | (simp [errW_none, errW_some] <;> rfl) | (simp [*, errW_none, errW_some] <;> rfl), by repeat (first | (with_reducible first | exact HB.out | apply below_alloc | apply pw_below_drewN | apply below_drew1 | refine below_set ?_ GE170.out | refine below_set ?_ GE174.out) | exact HB.out)⟩
           ·
            replace c50 := Bool.eq_false_iff.mpr c50
            subst c50
            have H1 : (if ((rd_T29 l0_1 x4_2).f2) = 3 then (if ((rd_T29 l0_1 x4_2).f3) = 0 then (interchangeref13_Right.j3 kj16 x4_2 false l0_0 l0_1 ((rd_T29 l0_1 x4_2).f0) ((rd_T29 l0_1 x4_2).f1) ((rd_T29 l0_1 x4_2).f2) ((rd_T29 l0_1 x4_2).f3)) else (interchangeref13_Right.j3 kj16 x4_2 true l0_0 l0_1 ((rd_T29 l0_1 x4_2).f0) ((rd_T29 l0_1 x4_2).f1) ((rd_T29 l0_1 x4_2).f2) ((rd_T29 l0_1 x4_2).f3))) else (interchangeref13_Right.j3 kj16 x4_2 (((rd_T29 l0_1 x4_2).f3) == 0) l0_0 l0_1 ((rd_T29 l0_1 x4_2).f0) ((rd_T29 l0_1 x4_2).f1) ((rd_T29 l0_1 x4_2).f2) ((rd_T29 l0_1 x4_2).f3))) = some r := by rw [if_neg (show ¬ (false = true) by decide)] at H; exact H
            clear H
            have H := H1
            clear H1
            have HC51 := Aside0.mk H
            clear H
            go_upto_region 14 with (fail)
            repeat (go_quiet (fail); go_upto_region 14 with (fail))
            go_cut [103] (fun v103 wc => ∃ (kq : Nat) (x103_50 : Bool), v103 = .bool x103_50 ∧ Aside0 (interchangeref13_Right.j3 kq x4_2 x103_50 l0_0 l0_1 ((rd_T29 l0_1 x4_2).f0) ((rd_T29 l0_1 x4_2).f1) ((rd_T29 l0_1 x4_2).f2) ((rd_T29 l0_1 x4_2).f3) = some r) ∧ Aside0 (kq ≤ kj16) ∧ Aside0 (wc.heap[gb170]? = some (.cells #[(.slice A0_0 l0_0.length c0_0), (.slice (some ad173) l0_1.length c0_1)] 25 (0, 0))) ∧ Aside0 (wc.heap[gb174]? = some (.cells #[.int .i64 ((rd_T29 l0_1 x4_2).f0), .int .i64 ((rd_T29 l0_1 x4_2).f1), .int .i64 ((rd_T29 l0_1 x4_2).f2), .int .i64 ((rd_T29 l0_1 x4_2).f3)] 29 (0, 0))) ∧ Aside0 (Below w.heap.size w wc))
            case first =>
             have H := HC51.out
             clear HC51
             by_cases c52 : ((rd_T29 l0_1 x4_2).f2) = 3
             ·
              rw [if_pos c52] at H
              have c52b0 : (((rd_T29 l0_1 x4_2).f2) == 3) = true := beq_iff_eq.mpr c52
              have c52b1 : (((rd_T29 l0_1 x4_2).f2) != 3) = false := bne_eq_false_iff_eq.mpr c52
              clear c52
              (first | rw [c52b0] | (simp only [i64_w, i32_w]; rw [c52b0]) | skip)
              by_cases c53 : ((rd_T29 l0_1 x4_2).f3) = 0
              ·
               rw [if_pos c53] at H
               have c53b0 : (((rd_T29 l0_1 x4_2).f3) == 0) = true := beq_iff_eq.mpr c53
               have c53b1 : (((rd_T29 l0_1 x4_2).f3) != 0) = false := bne_eq_false_iff_eq.mpr c53
               clear c53
               have H' := Aside0.mk H
               clear H
               have hnb54 := NB174_170.out
               have hnc54 := NB170_174.out
               have hcz55_0 : wc.cell? ⟨gb174, 0, none⟩ = some (.int .i64 ((rd_T29 l0_1 x4_2).f0)) := (blk_cell BK174.out 0).trans rfl
               have hcz55_1 : wc.cell? ⟨gb174, 1, none⟩ = some (.int .i64 ((rd_T29 l0_1 x4_2).f1)) := (blk_cell BK174.out 1).trans rfl
               have hcz55_2 : wc.cell? ⟨gb174, 2, none⟩ = some (.int .i64 ((rd_T29 l0_1 x4_2).f2)) := (blk_cell BK174.out 2).trans rfl
               have hcz55_3 : wc.cell? ⟨gb174, 3, none⟩ = some (.int .i64 ((rd_T29 l0_1 x4_2).f3)) := (blk_cell BK174.out 3).trans rfl
               have hfz55_0 := blk_frozen BK174.out 0
               have hfz55_1 := blk_frozen BK174.out 1
               have hfz55_2 := blk_frozen BK174.out 2
               have hfz55_3 := blk_frozen BK174.out 3
               go_wp2
               repeat (go_quiet (fail); try go_wp2)
               go_meet
               case rel => exact ⟨_, (false), (by first | rfl | (simp; done) | (simp [*]; done)), H', ⟨by have := HK1.out; have := HK2.out; have := HJ16.out; first | omega | exact Nat.le_refl _⟩, ⟨by (with_reducible repeat (first | refine blk_drewN ?_ _ | refine blk_drew ?_ | refine blk_alloc ?_ _)); exact BK170.out⟩, ⟨by (with_reducible repeat (first | refine blk_drewN ?_ _ | refine blk_drew ?_ | refine blk_alloc ?_ _)); exact BK174.out⟩, ⟨by repeat (first | (with_reducible first | exact HB.out | apply below_alloc | apply pw_below_drewN | apply below_drew1 | refine below_set ?_ GE170.out | refine below_set ?_ GE174.out) | exact HB.out)⟩⟩
              ·
               rw [if_neg c53] at H
               have c53b0 : (((rd_T29 l0_1 x4_2).f3) == 0) = false := beq_eq_false_iff_ne.mpr c53
               have c53b1 : (((rd_T29 l0_1 x4_2).f3) != 0) = true := bne_iff_ne.mpr c53
               have H' := Aside0.mk H
               clear H
               have hnb56 := NB174_170.out
               have hnc56 := NB170_174.out
               have hcz57_0 : wc.cell? ⟨gb174, 0, none⟩ = some (.int .i64 ((rd_T29 l0_1 x4_2).f0)) := (blk_cell BK174.out 0).trans rfl
               have hcz57_1 : wc.cell? ⟨gb174, 1, none⟩ = some (.int .i64 ((rd_T29 l0_1 x4_2).f1)) := (blk_cell BK174.out 1).trans rfl
               have hcz57_2 : wc.cell? ⟨gb174, 2, none⟩ = some (.int .i64 ((rd_T29 l0_1 x4_2).f2)) := (blk_cell BK174.out 2).trans rfl
               have hcz57_3 : wc.cell? ⟨gb174, 3, none⟩ = some (.int .i64 ((rd_T29 l0_1 x4_2).f3)) := (blk_cell BK174.out 3).trans rfl
               have hfz57_0 := blk_frozen BK174.out 0
               have hfz57_1 := blk_frozen BK174.out 1
               have hfz57_2 := blk_frozen BK174.out 2
               have hfz57_3 := blk_frozen BK174.out 3
               go_wp2
               repeat (go_quiet (fail); try go_wp2)
               go_meet
               case rel => exact ⟨_, (true), (by first | rfl | (simp; done) | (simp [*]; done)), H', ⟨by have := HK1.out; have := HK2.out; have := HJ16.out; first | omega | exact Nat.le_refl _⟩, ⟨by (with_reducible repeat (first | refine blk_drewN ?_ _ | refine blk_drew ?_ | refine blk_alloc ?_ _)); exact BK170.out⟩, ⟨by (with_reducible repeat (first | refine blk_drewN ?_ _ | refine blk_drew ?_ | refine blk_alloc ?_ _)); exact BK174.out⟩, ⟨by repeat (first | (with_reducible first | exact HB.out | apply below_alloc | apply pw_below_drewN | apply below_drew1 | refine below_set ?_ GE170.out | refine below_set ?_ GE174.out) | exact HB.out)⟩⟩
             ·
              rw [if_neg c52] at H
              have c52b0 : (((rd_T29 l0_1 x4_2).f2) == 3) = false := beq_eq_false_iff_ne.mpr c52
              have c52b1 : (((rd_T29 l0_1 x4_2).f2) != 3) = true := bne_iff_ne.mpr c52
              (first | rw [c52b0] | (simp only [i64_w, i32_w]; rw [c52b0]) | skip)
              have H' := Aside0.mk H
              clear H
              have hnb58 := NB174_170.out
              have hnc58 := NB170_174.out
              have hcz59_0 : wc.cell? ⟨gb174, 0, none⟩ = some (.int .i64 ((rd_T29 l0_1 x4_2).f0)) := (blk_cell BK174.out 0).trans rfl
              have hcz59_1 : wc.cell? ⟨gb174, 1, none⟩ = some (.int .i64 ((rd_T29 l0_1 x4_2).f1)) := (blk_cell BK174.out 1).trans rfl
              have hcz59_2 : wc.cell? ⟨gb174, 2, none⟩ = some (.int .i64 ((rd_T29 l0_1 x4_2).f2)) := (blk_cell BK174.out 2).trans rfl
              have hcz59_3 : wc.cell? ⟨gb174, 3, none⟩ = some (.int .i64 ((rd_T29 l0_1 x4_2).f3)) := (blk_cell BK174.out 3).trans rfl
              have hfz59_0 := blk_frozen BK174.out 0
              have hfz59_1 := blk_frozen BK174.out 1
              have hfz59_2 := blk_frozen BK174.out 2
              have hfz59_3 := blk_frozen BK174.out 3
              go_wp2
              repeat (go_quiet (fail); try go_wp2)
              go_meet
              case rel => exact ⟨_, ((((rd_T29 l0_1 x4_2).f3) == 0)), (by first | rfl | (simp; done) | (simp [*]; done)), H', ⟨by have := HK1.out; have := HK2.out; have := HJ16.out; first | omega | exact Nat.le_refl _⟩, ⟨by (with_reducible repeat (first | refine blk_drewN ?_ _ | refine blk_drew ?_ | refine blk_alloc ?_ _)); exact BK170.out⟩, ⟨by (with_reducible repeat (first | refine blk_drewN ?_ _ | refine blk_drew ?_ | refine blk_alloc ?_ _)); exact BK174.out⟩, ⟨by repeat (first | (with_reducible first | exact HB.out | apply below_alloc | apply pw_below_drewN | apply below_drew1 | refine below_set ?_ GE170.out | refine below_set ?_ GE174.out) | exact HB.out)⟩⟩
            case rest =>
             clear HC51
             (try clear c1); (try clear p1); (try clear q1); (try clear hx1); (try clear c2); (try clear c2b0); (try clear c2b1); (try clear p2); (try clear c3); (try clear c4); (try clear c5); (try clear p6); (try clear c7); (try clear c7b0); (try clear c8); (try clear c8b0); (try clear c9); (try clear c9b0); (try clear c11); (try clear c11b0); (try clear c15); (try clear c15b0); (try clear c16); (try clear c16b0); (try clear p17); (try clear q17); (try clear hx17); (try clear c20); (try clear c22); (try clear c22b0); (try clear c23); (try clear c25); (try clear c25b0); (try clear c26); (try clear c27); (try clear c29); (try clear c29b0); (try clear c30); (try clear c33); (try clear c33b0); (try clear c34); (try clear c34b0); (try clear c35); (try clear c35b0); (try clear c36); (try clear c39); (try clear c39b0); (try clear c40); (try clear c43); (try clear c43b0); (try clear c44); (try clear c47); (try clear c50); (try clear c52); (try clear c52b0); (try clear c52b1); (try clear c53); (try clear c53b0); (try clear c53b1); (try clear c54); (try clear c56); (try clear c58); (try clear hcz10_0); (try clear hcz10_1); (try clear hcz12_0); (try clear hcz12_1); (try clear hcz13_0); (try clear hcz13_1); (try clear hcz14_0); (try clear hcz14_1); (try clear hcz18_0); (try clear hcz18_1); (try clear hcz21_0); (try clear hcz21_1); (try clear hcz21_2); (try clear hcz21_3); (try clear hcz24_0); (try clear hcz24_1); (try clear hcz24_2); (try clear hcz24_3); (try clear hcz27_0); (try clear hcz27_1); (try clear hcz27_2); (try clear hcz27_3); (try clear hcz28_0); (try clear hcz28_1); (try clear hcz31_0); (try clear hcz31_1); (try clear hcz31_2); (try clear hcz31_3); (try clear hcz32_0); (try clear hcz32_1); (try clear hcz37_0); (try clear hcz37_1); (try clear hcz37_2); (try clear hcz37_3); (try clear hcz38_0); (try clear hcz38_1); (try clear hcz41_0); (try clear hcz41_1); (try clear hcz41_2); (try clear hcz41_3); (try clear hcz42_0); (try clear hcz42_1); (try clear hcz45_0); (try clear hcz45_1); (try clear hcz45_2); (try clear hcz45_3); (try clear hcz46_0); (try clear hcz46_1); (try clear hcz48_0); (try clear hcz48_1); (try clear hcz48_2); (try clear hcz48_3); (try clear hcz49_0); (try clear hcz49_1); (try clear hcz4_0); (try clear hcz4_1); (try clear hcz55_0); (try clear hcz55_1); (try clear hcz55_2); (try clear hcz55_3); (try clear hcz57_0); (try clear hcz57_1); (try clear hcz57_2); (try clear hcz57_3); (try clear hcz59_0); (try clear hcz59_1); (try clear hcz59_2); (try clear hcz59_3); (try clear hcz6_0); (try clear hcz6_1); (try clear hfz10_0); (try clear hfz10_1); (try clear hfz12_0); (try clear hfz12_1); (try clear hfz13_0); (try clear hfz13_1); (try clear hfz14_0); (try clear hfz14_1); (try clear hfz18_0); (try clear hfz18_1); (try clear hfz21_0); (try clear hfz21_1); (try clear hfz21_2); (try clear hfz21_3); (try clear hfz24_0); (try clear hfz24_1); (try clear hfz24_2); (try clear hfz24_3); (try clear hfz27_0); (try clear hfz27_1); (try clear hfz27_2); (try clear hfz27_3); (try clear hfz28_0); (try clear hfz28_1); (try clear hfz31_0); (try clear hfz31_1); (try clear hfz31_2); (try clear hfz31_3); (try clear hfz32_0); (try clear hfz32_1); (try clear hfz37_0); (try clear hfz37_1); (try clear hfz37_2); (try clear hfz37_3); (try clear hfz38_0); (try clear hfz38_1); (try clear hfz41_0); (try clear hfz41_1); (try clear hfz41_2); (try clear hfz41_3); (try clear hfz42_0); (try clear hfz42_1); (try clear hfz45_0); (try clear hfz45_1); (try clear hfz45_2); (try clear hfz45_3); (try clear hfz46_0); (try clear hfz46_1); (try clear hfz48_0); (try clear hfz48_1); (try clear hfz48_2); (try clear hfz48_3); (try clear hfz49_0); (try clear hfz49_1); (try clear hfz4_0); (try clear hfz4_1); (try clear hfz55_0); (try clear hfz55_1); (try clear hfz55_2); (try clear hfz55_3); (try clear hfz57_0); (try clear hfz57_1); (try clear hfz57_2); (try clear hfz57_3); (try clear hfz59_0); (try clear hfz59_1); (try clear hfz59_2); (try clear hfz59_3); (try clear hfz6_0); (try clear hfz6_1); (try clear hx171_0); (try clear hx172_0); (try clear hx173_0); (try clear hx173_1); (try clear hx173_2); (try clear hx173_3); (try clear hx175_0); (try clear p1); (try clear p17); (try clear p171); (try clear p172); (try clear p173); (try clear p175); (try clear p2); (try clear p6); (try clear q1); (try clear q17); (try clear q171); (try clear q172); (try clear q173); (try clear q175)
             obtain ⟨kq, x103_50, rfl, HA, HJ50, BK170, BK174, HB⟩ := hcut
             cases kq with
             | zero => exact absurd HA.out (by simp [interchangeref13_Right.j3])
             | succ kj50 =>
              have H := HA.out
              clear HA
              simp only [interchangeref13_Right.j3] at H
              by_cases c60 : x103_50 = true
              ·
               subst c60
               have H1 : (some false) = some r := by rw [if_pos rfl] at H; exact H
               clear H
               have H := H1
               clear H1
               obtain rfl := Option.some.inj H
               go_wp2
               repeat (go_quiet (fail); try go_wp2)
               go_ret
               exact ⟨by first | rfl | (simp [errW_none, errW_some] <;> rfl) | (simp [*, errW_none, errW_some] <;> rfl), by repeat (first | (with_reducible first | exact HB.out | apply below_alloc | apply pw_below_drewN | apply below_drew1 | refine below_set ?_ GE170.out | refine below_set ?_ GE174.out) | exact HB.out)⟩
              ·
               replace c60 := Bool.eq_false_iff.mpr c60
               subst c60
               have H1 : (if x4_2 > 0 then (if 0 ≤ (wrap64 (x4_2 - 1)) then (if (wrap64 (x4_2 - 1)) < (l0_1.length : Int) then (if ((rd_T29 l0_1 (wrap64 (x4_2 - 1))).f0) > ((rd_T29 l0_1 x4_2).f0) then (interchangeref13_Right.j4 kj50 x4_2 true l0_0 l0_1 ((rd_T29 l0_1 x4_2).f0) ((rd_T29 l0_1 x4_2).f1) ((rd_T29 l0_1 x4_2).f2) ((rd_T29 l0_1 x4_2).f3)) else (if ((rd_T29 l0_1 (wrap64 (x4_2 - 1))).f0) = ((rd_T29 l0_1 x4_2).f0) then (interchangeref13_Right.j4 kj50 x4_2 (decide (((rd_T29 l0_1 (wrap64 (x4_2 - 1))).f1) ≥ ((rd_T29 l0_1 x4_2).f1))) l0_0 l0_1 ((rd_T29 l0_1 x4_2).f0) ((rd_T29 l0_1 x4_2).f1) ((rd_T29 l0_1 x4_2).f2) ((rd_T29 l0_1 x4_2).f3)) else (interchangeref13_Right.j4 kj50 x4_2 false l0_0 l0_1 ((rd_T29 l0_1 x4_2).f0) ((rd_T29 l0_1 x4_2).f1) ((rd_T29 l0_1 x4_2).f2) ((rd_T29 l0_1 x4_2).f3)))) else (none)) else (none)) else (interchangeref13_Right.j4 kj50 x4_2 false l0_0 l0_1 ((rd_T29 l0_1 x4_2).f0) ((rd_T29 l0_1 x4_2).f1) ((rd_T29 l0_1 x4_2).f2) ((rd_T29 l0_1 x4_2).f3))) = some r := by rw [if_neg (show ¬ (false = true) by decide)] at H; exact H
               clear H
               have H := H1
               clear H1
               have HC61 := Aside0.mk H
               clear H
               go_upto_region 16 with (fail)
               repeat (go_quiet (fail); go_upto_region 16 with (fail))
               go_cut [141] (fun v141 wc => ∃ (kq : Nat) (x141_60 : Bool), v141 = .bool x141_60 ∧ Aside0 (interchangeref13_Right.j4 kq x4_2 x141_60 l0_0 l0_1 ((rd_T29 l0_1 x4_2).f0) ((rd_T29 l0_1 x4_2).f1) ((rd_T29 l0_1 x4_2).f2) ((rd_T29 l0_1 x4_2).f3) = some r) ∧ Aside0 (kq ≤ kj50) ∧ Aside0 (wc.heap[gb170]? = some (.cells #[(.slice A0_0 l0_0.length c0_0), (.slice (some ad173) l0_1.length c0_1)] 25 (0, 0))) ∧ Aside0 (wc.heap[gb174]? = some (.cells #[.int .i64 ((rd_T29 l0_1 x4_2).f0), .int .i64 ((rd_T29 l0_1 x4_2).f1), .int .i64 ((rd_T29 l0_1 x4_2).f2), .int .i64 ((rd_T29 l0_1 x4_2).f3)] 29 (0, 0))) ∧ Aside0 (Below w.heap.size w wc))
               case first =>
                have H := HC61.out
                clear HC61
                by_cases c62 : x4_2 > 0
                ·
                 rw [if_pos c62] at H
                 have c62b0 : decide (0 < x4_2) = true := decide_eq_true c62
                 clear c62
                 (first | rw [c62b0] | (simp only [i64_w, i32_w]; rw [c62b0]) | skip)
                 obtain ⟨ji63, hji63⟩ : ∃ j_ : Int, (wrap64 (x4_2 - 1)) = j_ := ⟨_, rfl⟩
                 replace H : (if 0 ≤ (ji63) then (if (ji63) < (l0_1.length : Int) then (if ((rd_T29 l0_1 (ji63)).f0) > ((rd_T29 l0_1 x4_2).f0) then (interchangeref13_Right.j4 kj50 x4_2 true l0_0 l0_1 ((rd_T29 l0_1 x4_2).f0) ((rd_T29 l0_1 x4_2).f1) ((rd_T29 l0_1 x4_2).f2) ((rd_T29 l0_1 x4_2).f3)) else (if ((rd_T29 l0_1 (ji63)).f0) = ((rd_T29 l0_1 x4_2).f0) then (interchangeref13_Right.j4 kj50 x4_2 (decide (((rd_T29 l0_1 (ji63)).f1) ≥ ((rd_T29 l0_1 x4_2).f1))) l0_0 l0_1 ((rd_T29 l0_1 x4_2).f0) ((rd_T29 l0_1 x4_2).f1) ((rd_T29 l0_1 x4_2).f2) ((rd_T29 l0_1 x4_2).f3)) else (interchangeref13_Right.j4 kj50 x4_2 false l0_0 l0_1 ((rd_T29 l0_1 x4_2).f0) ((rd_T29 l0_1 x4_2).f1) ((rd_T29 l0_1 x4_2).f2) ((rd_T29 l0_1 x4_2).f3)))) else (none)) else (none)) = some r := by first | (rw [hji63] at H; exact H) | (simp only [hji63] at H ⊢; exact H)
                 have hji63w : (IntKind.i64.wrap (x4_2 - 1)) = ji63 := (i64_w _).trans hji63
                 by_cases c64 : 0 ≤ (ji63)
                 ·
                  rw [if_pos c64] at H
                  have c64b0 : decide (0 ≤ (ji63)) = true := decide_eq_true c64
                  clear c64
                  by_cases c65 : (ji63) < (l0_1.length : Int)
                  ·
                   rw [if_pos c65] at H
                   have c65b0 : decide ((ji63) < (l0_1.length : Int)) = true := decide_eq_true c65
                   clear c65
                   by_cases c66 : ((rd_T29 l0_1 (ji63)).f0) > ((rd_T29 l0_1 x4_2).f0)
                   ·
                    rw [if_pos c66] at H
                    have c66b0 : decide (((rd_T29 l0_1 x4_2).f0) < ((rd_T29 l0_1 (ji63)).f0)) = true := decide_eq_true c66
                    clear c66
                    have H' := Aside0.mk H
                    clear H
                    have hnb67 := NB170_174.out
                    have hnc67 := NB174_170.out
                    have hcz68_0 : wc.cell? ⟨gb170, 0, none⟩ = some (.slice A0_0 l0_0.length c0_0) := (blk_cell BK170.out 0).trans rfl
                    have hcz68_1 : wc.cell? ⟨gb170, 1, none⟩ = some (.slice (some ad173) l0_1.length c0_1) := (blk_cell BK170.out 1).trans rfl
                    have hfz68_0 := blk_frozen BK170.out 0
                    have hfz68_1 := blk_frozen BK170.out 1
                    have p176 : 0 ≤ ((ji63) : Int) := of_decide_eq_true (by first | (with_reducible assumption) | assumption)
                    have q176 : (ji63) < (l0_1.length : Int) := of_decide_eq_true (by first | (with_reducible assumption) | assumption)
                    obtain ⟨ad176, e176, hx176_0, hx176_1, hx176_2, hx176_3⟩ := at_T29 HR0_1.out (ji63) p176 q176
                    obtain rfl : ad173 = ad176 := (by injection e176)
                    replace hx176_0 := (HB.out.cell (World.block_lt_of_cell? w _ hx176_0)).trans hx176_0
                    replace hx176_1 := (HB.out.cell (World.block_lt_of_cell? w _ hx176_1)).trans hx176_1
                    replace hx176_2 := (HB.out.cell (World.block_lt_of_cell? w _ hx176_2)).trans hx176_2
                    replace hx176_3 := (HB.out.cell (World.block_lt_of_cell? w _ hx176_3)).trans hx176_3
                    replace p176 := eq_true p176
                    replace q176 := eq_true q176
                    have hcz69_0 : wc.cell? ⟨gb174, 0, none⟩ = some (.int .i64 ((rd_T29 l0_1 x4_2).f0)) := (blk_cell BK174.out 0).trans rfl
                    have hcz69_1 : wc.cell? ⟨gb174, 1, none⟩ = some (.int .i64 ((rd_T29 l0_1 x4_2).f1)) := (blk_cell BK174.out 1).trans rfl
                    have hcz69_2 : wc.cell? ⟨gb174, 2, none⟩ = some (.int .i64 ((rd_T29 l0_1 x4_2).f2)) := (blk_cell BK174.out 2).trans rfl
                    have hcz69_3 : wc.cell? ⟨gb174, 3, none⟩ = some (.int .i64 ((rd_T29 l0_1 x4_2).f3)) := (blk_cell BK174.out 3).trans rfl
                    have hfz69_0 := blk_frozen BK174.out 0
                    have hfz69_1 := blk_frozen BK174.out 1
                    have hfz69_2 := blk_frozen BK174.out 2
                    have hfz69_3 := blk_frozen BK174.out 3
                    go_wp2
                    repeat (go_quiet (fail); try go_wp2)
                    go_meet
                    case rel => exact ⟨_, (true), (by first | rfl | (simp; done) | (simp [*]; done)), H', ⟨by have := HK1.out; have := HK2.out; have := HJ16.out; have := HJ50.out; first | omega | exact Nat.le_refl _⟩, ⟨by (with_reducible repeat (first | refine blk_drewN ?_ _ | refine blk_drew ?_ | refine blk_alloc ?_ _)); exact BK170.out⟩, ⟨by (with_reducible repeat (first | refine blk_drewN ?_ _ | refine blk_drew ?_ | refine blk_alloc ?_ _)); exact BK174.out⟩, ⟨by repeat (first | (with_reducible first | exact HB.out | apply below_alloc | apply pw_below_drewN | apply below_drew1 | refine below_set ?_ GE170.out | refine below_set ?_ GE174.out) | exact HB.out)⟩⟩
                   ·
                    rw [if_neg c66] at H
                    have c66b0 : decide (((rd_T29 l0_1 x4_2).f0) < ((rd_T29 l0_1 (ji63)).f0)) = false := decide_eq_false c66
                    clear c66
                    by_cases c70 : ((rd_T29 l0_1 (ji63)).f0) = ((rd_T29 l0_1 x4_2).f0)
                    ·
                     rw [if_pos c70] at H
                     have c70b0 : (((rd_T29 l0_1 (ji63)).f0) == ((rd_T29 l0_1 x4_2).f0)) = true := beq_iff_eq.mpr c70
                     have c70b1 : (((rd_T29 l0_1 (ji63)).f0) != ((rd_T29 l0_1 x4_2).f0)) = false := bne_eq_false_iff_eq.mpr c70
                     clear c70
                     have H' := Aside0.mk H
                     clear H
                     have hnb71 := NB170_174.out
                     have hnc71 := NB174_170.out
                     have hcz72_0 : wc.cell? ⟨gb170, 0, none⟩ = some (.slice A0_0 l0_0.length c0_0) := (blk_cell BK170.out 0).trans rfl
                     have hcz72_1 : wc.cell? ⟨gb170, 1, none⟩ = some (.slice (some ad173) l0_1.length c0_1) := (blk_cell BK170.out 1).trans rfl
                     have hfz72_0 := blk_frozen BK170.out 0
                     have hfz72_1 := blk_frozen BK170.out 1
                     have p176 : 0 ≤ ((ji63) : Int) := of_decide_eq_true (by first | (with_reducible assumption) | assumption)
                     have q176 : (ji63) < (l0_1.length : Int) := of_decide_eq_true (by first | (with_reducible assumption) | assumption)
                     obtain ⟨ad176, e176, hx176_0, hx176_1, hx176_2, hx176_3⟩ := at_T29 HR0_1.out (ji63) p176 q176
                     obtain rfl : ad173 = ad176 := (by injection e176)
                     replace hx176_0 := (HB.out.cell (World.block_lt_of_cell? w _ hx176_0)).trans hx176_0
                     replace hx176_1 := (HB.out.cell (World.block_lt_of_cell? w _ hx176_1)).trans hx176_1
                     replace hx176_2 := (HB.out.cell (World.block_lt_of_cell? w _ hx176_2)).trans hx176_2
                     replace hx176_3 := (HB.out.cell (World.block_lt_of_cell? w _ hx176_3)).trans hx176_3
                     replace p176 := eq_true p176
                     replace q176 := eq_true q176
                     have hcz73_0 : wc.cell? ⟨gb174, 0, none⟩ = some (.int .i64 ((rd_T29 l0_1 x4_2).f0)) := (blk_cell BK174.out 0).trans rfl
                     have hcz73_1 : wc.cell? ⟨gb174, 1, none⟩ = some (.int .i64 ((rd_T29 l0_1 x4_2).f1)) := (blk_cell BK174.out 1).trans rfl
                     have hcz73_2 : wc.cell? ⟨gb174, 2, none⟩ = some (.int .i64 ((rd_T29 l0_1 x4_2).f2)) := (blk_cell BK174.out 2).trans rfl
                     have hcz73_3 : wc.cell? ⟨gb174, 3, none⟩ = some (.int .i64 ((rd_T29 l0_1 x4_2).f3)) := (blk_cell BK174.out 3).trans rfl
                     have hfz73_0 := blk_frozen BK174.out 0
                     have hfz73_1 := blk_frozen BK174.out 1
                     have hfz73_2 := blk_frozen BK174.out 2
                     have hfz73_3 := blk_frozen BK174.out 3
                     have p177 : 0 ≤ ((ji63) : Int) := of_decide_eq_true (by first | (with_reducible assumption) | assumption)
                     have q177 : (ji63) < (l0_1.length : Int) := of_decide_eq_true (by first | (with_reducible assumption) | assumption)
                     obtain ⟨ad177, e177, hx177_0, hx177_1, hx177_2, hx177_3⟩ := at_T29 HR0_1.out (ji63) p177 q177
                     obtain rfl : ad173 = ad177 := (by injection e177)
                     replace hx177_0 := (HB.out.cell (World.block_lt_of_cell? w _ hx177_0)).trans hx177_0
                     replace hx177_1 := (HB.out.cell (World.block_lt_of_cell? w _ hx177_1)).trans hx177_1
                     replace hx177_2 := (HB.out.cell (World.block_lt_of_cell? w _ hx177_2)).trans hx177_2
                     replace hx177_3 := (HB.out.cell (World.block_lt_of_cell? w _ hx177_3)).trans hx177_3
                     replace p177 := eq_true p177
                     replace q177 := eq_true q177
                     have p178 : 0 ≤ ((ji63) : Int) := of_decide_eq_true (by first | (with_reducible assumption) | assumption)
                     have q178 : (ji63) < (l0_1.length : Int) := of_decide_eq_true (by first | (with_reducible assumption) | assumption)
                     obtain ⟨ad178, e178, hx178_0, hx178_1, hx178_2, hx178_3⟩ := at_T29 HR0_1.out (ji63) p178 q178
                     obtain rfl : ad173 = ad178 := (by injection e178)
                     replace hx178_0 := (HB.out.cell (World.block_lt_of_cell? w _ hx178_0)).trans hx178_0
                     replace hx178_1 := (HB.out.cell (World.block_lt_of_cell? w _ hx178_1)).trans hx178_1
                     replace hx178_2 := (HB.out.cell (World.block_lt_of_cell? w _ hx178_2)).trans hx178_2
                     replace hx178_3 := (HB.out.cell (World.block_lt_of_cell? w _ hx178_3)).trans hx178_3
                     replace p178 := eq_true p178
                     replace q178 := eq_true q178
                     go_wp2
                     repeat (go_quiet (fail); try go_wp2)
                     go_meet
                     case rel => exact ⟨_, (decide (((rd_T29 l0_1 (ji63)).f1) ≥ ((rd_T29 l0_1 x4_2).f1))), (by first | rfl | (simp; done) | (simp only [← hji63] <;> (first | rfl | simp)) | (simp [*]; done)), H', ⟨by have := HK1.out; have := HK2.out; have := HJ16.out; have := HJ50.out; first | omega | exact Nat.le_refl _⟩, ⟨by (with_reducible repeat (first | refine blk_drewN ?_ _ | refine blk_drew ?_ | refine blk_alloc ?_ _)); exact BK170.out⟩, ⟨by (with_reducible repeat (first | refine blk_drewN ?_ _ | refine blk_drew ?_ | refine blk_alloc ?_ _)); exact BK174.out⟩, ⟨by repeat (first | (with_reducible first | exact HB.out | apply below_alloc | apply pw_below_drewN | apply below_drew1 | refine below_set ?_ GE170.out | refine below_set ?_ GE174.out) | exact HB.out)⟩⟩
                    ·
                     rw [if_neg c70] at H
                     have c70b0 : (((rd_T29 l0_1 (ji63)).f0) == ((rd_T29 l0_1 x4_2).f0)) = false := beq_eq_false_iff_ne.mpr c70
                     have c70b1 : (((rd_T29 l0_1 (ji63)).f0) != ((rd_T29 l0_1 x4_2).f0)) = true := bne_iff_ne.mpr c70
                     have H' := Aside0.mk H
                     clear H
                     have hnb74 := NB170_174.out
                     have hnc74 := NB174_170.out
                     have hcz75_0 : wc.cell? ⟨gb170, 0, none⟩ = some (.slice A0_0 l0_0.length c0_0) := (blk_cell BK170.out 0).trans rfl
                     have hcz75_1 : wc.cell? ⟨gb170, 1, none⟩ = some (.slice (some ad173) l0_1.length c0_1) := (blk_cell BK170.out 1).trans rfl
                     have hfz75_0 := blk_frozen BK170.out 0
                     have hfz75_1 := blk_frozen BK170.out 1
                     have p176 : 0 ≤ ((ji63) : Int) := of_decide_eq_true (by first | (with_reducible assumption) | assumption)
                     have q176 : (ji63) < (l0_1.length : Int) := of_decide_eq_true (by first | (with_reducible assumption) | assumption)
                     obtain ⟨ad176, e176, hx176_0, hx176_1, hx176_2, hx176_3⟩ := at_T29 HR0_1.out (ji63) p176 q176
                     obtain rfl : ad173 = ad176 := (by injection e176)
                     replace hx176_0 := (HB.out.cell (World.block_lt_of_cell? w _ hx176_0)).trans hx176_0
                     replace hx176_1 := (HB.out.cell (World.block_lt_of_cell? w _ hx176_1)).trans hx176_1
                     replace hx176_2 := (HB.out.cell (World.block_lt_of_cell? w _ hx176_2)).trans hx176_2
                     replace hx176_3 := (HB.out.cell (World.block_lt_of_cell? w _ hx176_3)).trans hx176_3
                     replace p176 := eq_true p176
                     replace q176 := eq_true q176
                     have hcz76_0 : wc.cell? ⟨gb174, 0, none⟩ = some (.int .i64 ((rd_T29 l0_1 x4_2).f0)) := (blk_cell BK174.out 0).trans rfl
                     have hcz76_1 : wc.cell? ⟨gb174, 1, none⟩ = some (.int .i64 ((rd_T29 l0_1 x4_2).f1)) := (blk_cell BK174.out 1).trans rfl
                     have hcz76_2 : wc.cell? ⟨gb174, 2, none⟩ = some (.int .i64 ((rd_T29 l0_1 x4_2).f2)) := (blk_cell BK174.out 2).trans rfl
                     have hcz76_3 : wc.cell? ⟨gb174, 3, none⟩ = some (.int .i64 ((rd_T29 l0_1 x4_2).f3)) := (blk_cell BK174.out 3).trans rfl
                     have hfz76_0 := blk_frozen BK174.out 0
                     have hfz76_1 := blk_frozen BK174.out 1
                     have hfz76_2 := blk_frozen BK174.out 2
                     have hfz76_3 := blk_frozen BK174.out 3
                     have p177 : 0 ≤ ((ji63) : Int) := of_decide_eq_true (by first | (with_reducible assumption) | assumption)
                     have q177 : (ji63) < (l0_1.length : Int) := of_decide_eq_true (by first | (with_reducible assumption) | assumption)
                     obtain ⟨ad177, e177, hx177_0, hx177_1, hx177_2, hx177_3⟩ := at_T29 HR0_1.out (ji63) p177 q177
                     obtain rfl : ad173 = ad177 := (by injection e177)
                     replace hx177_0 := (HB.out.cell (World.block_lt_of_cell? w _ hx177_0)).trans hx177_0
                     replace hx177_1 := (HB.out.cell (World.block_lt_of_cell? w _ hx177_1)).trans hx177_1
                     replace hx177_2 := (HB.out.cell (World.block_lt_of_cell? w _ hx177_2)).trans hx177_2
                     replace hx177_3 := (HB.out.cell (World.block_lt_of_cell? w _ hx177_3)).trans hx177_3
                     replace p177 := eq_true p177
                     replace q177 := eq_true q177
                     go_wp2
                     repeat (go_quiet (fail); try go_wp2)
                     go_meet
                     case rel => exact ⟨_, (false), (by first | rfl | (simp; done) | (simp [*]; done)), H', ⟨by have := HK1.out; have := HK2.out; have := HJ16.out; have := HJ50.out; first | omega | exact Nat.le_refl _⟩, ⟨by (with_reducible repeat (first | refine blk_drewN ?_ _ | refine blk_drew ?_ | refine blk_alloc ?_ _)); exact BK170.out⟩, ⟨by (with_reducible repeat (first | refine blk_drewN ?_ _ | refine blk_drew ?_ | refine blk_alloc ?_ _)); exact BK174.out⟩, ⟨by repeat (first | (with_reducible first | exact HB.out | apply below_alloc | apply pw_below_drewN | apply below_drew1 | refine below_set ?_ GE170.out | refine below_set ?_ GE174.out) | exact HB.out)⟩⟩
                  ·
                   rw [if_neg c65] at H
                   exact absurd H (by simp)
                 ·
                  rw [if_neg c64] at H
                  exact absurd H (by simp)
                ·
                 rw [if_neg c62] at H
                 have c62b0 : decide (0 < x4_2) = false := decide_eq_false c62
                 clear c62
                 (first | rw [c62b0] | (simp only [i64_w, i32_w]; rw [c62b0]) | skip)
                 have H' := Aside0.mk H
                 clear H
                 go_wp2
                 repeat (go_quiet (fail); try go_wp2)
                 go_meet
                 case rel => exact ⟨_, (false), (by first | rfl | (simp; done) | (simp [*]; done)), H', ⟨by have := HK1.out; have := HK2.out; have := HJ16.out; have := HJ50.out; first | omega | exact Nat.le_refl _⟩, ⟨by (with_reducible repeat (first | refine blk_drewN ?_ _ | refine blk_drew ?_ | refine blk_alloc ?_ _)); exact BK170.out⟩, ⟨by (with_reducible repeat (first | refine blk_drewN ?_ _ | refine blk_drew ?_ | refine blk_alloc ?_ _)); exact BK174.out⟩, ⟨by repeat (first | (with_reducible first | exact HB.out | apply below_alloc | apply pw_below_drewN | apply below_drew1 | refine below_set ?_ GE170.out | refine below_set ?_ GE174.out) | exact HB.out)⟩⟩
               case rest =>
                clear HC61
                (try clear c1); (try clear p1); (try clear q1); (try clear hx1); (try clear c2); (try clear c2b0); (try clear c2b1); (try clear p2); (try clear c3); (try clear c4); (try clear c5); (try clear c6); (try clear p6); (try clear c7); (try clear c7b0); (try clear c8); (try clear c8b0); (try clear c9); (try clear c9b0); (try clear c11); (try clear c11b0); (try clear c15); (try clear c15b0); (try clear c16); (try clear c16b0); (try clear p17); (try clear q17); (try clear hx17); (try clear c20); (try clear c22); (try clear c22b0); (try clear c23); (try clear c25); (try clear c25b0); (try clear c26); (try clear c27); (try clear c29); (try clear c29b0); (try clear c30); (try clear c33); (try clear c33b0); (try clear c34); (try clear c34b0); (try clear c35); (try clear c35b0); (try clear c36); (try clear c39); (try clear c39b0); (try clear c40); (try clear c43); (try clear c43b0); (try clear c44); (try clear c47); (try clear c50); (try clear c52); (try clear c52b0); (try clear c52b1); (try clear c53); (try clear c53b0); (try clear c53b1); (try clear c54); (try clear c56); (try clear c58); (try clear c60); (try clear c62); (try clear c62b0); (try clear c64); (try clear c64b0); (try clear p64); (try clear c65); (try clear c65b0); (try clear c66); (try clear c66b0); (try clear c67); (try clear c70); (try clear c70b0); (try clear c70b1); (try clear c71); (try clear c74); (try clear hcz10_0); (try clear hcz10_1); (try clear hcz12_0); (try clear hcz12_1); (try clear hcz13_0); (try clear hcz13_1); (try clear hcz14_0); (try clear hcz14_1); (try clear hcz18_0); (try clear hcz18_1); (try clear hcz21_0); (try clear hcz21_1); (try clear hcz21_2); (try clear hcz21_3); (try clear hcz24_0); (try clear hcz24_1); (try clear hcz24_2); (try clear hcz24_3); (try clear hcz27_0); (try clear hcz27_1); (try clear hcz27_2); (try clear hcz27_3); (try clear hcz28_0); (try clear hcz28_1); (try clear hcz31_0); (try clear hcz31_1); (try clear hcz31_2); (try clear hcz31_3); (try clear hcz32_0); (try clear hcz32_1); (try clear hcz37_0); (try clear hcz37_1); (try clear hcz37_2); (try clear hcz37_3); (try clear hcz38_0); (try clear hcz38_1); (try clear hcz41_0); (try clear hcz41_1); (try clear hcz41_2); (try clear hcz41_3); (try clear hcz42_0); (try clear hcz42_1); (try clear hcz45_0); (try clear hcz45_1); (try clear hcz45_2); (try clear hcz45_3); (try clear hcz46_0); (try clear hcz46_1); (try clear hcz48_0); (try clear hcz48_1); (try clear hcz48_2); (try clear hcz48_3); (try clear hcz49_0); (try clear hcz49_1); (try clear hcz4_0); (try clear hcz4_1); (try clear hcz55_0); (try clear hcz55_1); (try clear hcz55_2); (try clear hcz55_3); (try clear hcz57_0); (try clear hcz57_1); (try clear hcz57_2); (try clear hcz57_3); (try clear hcz59_0); (try clear hcz59_1); (try clear hcz59_2); (try clear hcz59_3); (try clear hcz68_0); (try clear hcz68_1); (try clear hcz69_0); (try clear hcz69_1); (try clear hcz69_2); (try clear hcz69_3); (try clear hcz6_0); (try clear hcz6_1); (try clear hcz72_0); (try clear hcz72_1); (try clear hcz73_0); (try clear hcz73_1); (try clear hcz73_2); (try clear hcz73_3); (try clear hcz75_0); (try clear hcz75_1); (try clear hcz76_0); (try clear hcz76_1); (try clear hcz76_2); (try clear hcz76_3); (try clear hfz10_0); (try clear hfz10_1); (try clear hfz12_0); (try clear hfz12_1); (try clear hfz13_0); (try clear hfz13_1); (try clear hfz14_0); (try clear hfz14_1); (try clear hfz18_0); (try clear hfz18_1); (try clear hfz21_0); (try clear hfz21_1); (try clear hfz21_2); (try clear hfz21_3); (try clear hfz24_0); (try clear hfz24_1); (try clear hfz24_2); (try clear hfz24_3); (try clear hfz27_0); (try clear hfz27_1); (try clear hfz27_2); (try clear hfz27_3); (try clear hfz28_0); (try clear hfz28_1); (try clear hfz31_0); (try clear hfz31_1); (try clear hfz31_2); (try clear hfz31_3); (try clear hfz32_0); (try clear hfz32_1); (try clear hfz37_0); (try clear hfz37_1); (try clear hfz37_2); (try clear hfz37_3); (try clear hfz38_0); (try clear hfz38_1); (try clear hfz41_0); (try clear hfz41_1); (try clear hfz41_2); (try clear hfz41_3); (try clear hfz42_0); (try clear hfz42_1); (try clear hfz45_0); (try clear hfz45_1); (try clear hfz45_2); (try clear hfz45_3); (try clear hfz46_0); (try clear hfz46_1); (try clear hfz48_0); (try clear hfz48_1); (try clear hfz48_2); (try clear hfz48_3); (try clear hfz49_0); (try clear hfz49_1); (try clear hfz4_0); (try clear hfz4_1); (try clear hfz55_0); (try clear hfz55_1); (try clear hfz55_2); (try clear hfz55_3); (try clear hfz57_0); (try clear hfz57_1); (try clear hfz57_2); (try clear hfz57_3); (try clear hfz59_0); (try clear hfz59_1); (try clear hfz59_2); (try clear hfz59_3); (try clear hfz68_0); (try clear hfz68_1); (try clear hfz69_0); (try clear hfz69_1); (try clear hfz69_2); (try clear hfz69_3); (try clear hfz6_0); (try clear hfz6_1); (try clear hfz72_0); (try clear hfz72_1); (try clear hfz73_0); (try clear hfz73_1); (try clear hfz73_2); (try clear hfz73_3); (try clear hfz75_0); (try clear hfz75_1); (try clear hfz76_0); (try clear hfz76_1); (try clear hfz76_2); (try clear hfz76_3); (try clear hx171_0); (try clear hx172_0); (try clear hx173_0); (try clear hx173_1); (try clear hx173_2); (try clear hx173_3); (try clear hx175_0); (try clear hx176_0); (try clear hx176_1); (try clear hx176_2); (try clear hx176_3); (try clear hx177_0); (try clear hx177_1); (try clear hx177_2); (try clear hx177_3); (try clear hx178_0); (try clear hx178_1); (try clear hx178_2); (try clear hx178_3); (try clear p1); (try clear p17); (try clear p171); (try clear p172); (try clear p173); (try clear p175); (try clear p176); (try clear p177); (try clear p178); (try clear p2); (try clear p6); (try clear q1); (try clear q17); (try clear q171); (try clear q172); (try clear q173); (try clear q175); (try clear q176); (try clear q177); (try clear q178)
                obtain ⟨kq, x141_60, rfl, HA, HJ60, BK170, BK174, HB⟩ := hcut
                cases kq with
                | zero => exact absurd HA.out (by simp [interchangeref13_Right.j4])
                | succ kj60 =>
                 have H := HA.out
                 clear HA
                 simp only [interchangeref13_Right.j4] at H
                 by_cases c77 : x141_60 = true
                 ·
                  subst c77
                  have H1 : (some false) = some r := by rw [if_pos rfl] at H; exact H
                  clear H
                  have H := H1
                  clear H1
                  obtain rfl := Option.some.inj H
                  go_wp2
                  repeat (go_quiet (fail); try go_wp2)
                  go_ret
                  exact ⟨by first | rfl | (simp [errW_none, errW_some] <;> rfl) | (simp [*, errW_none, errW_some] <;> rfl), by repeat (first | (with_reducible first | exact HB.out | apply below_alloc | apply pw_below_drewN | apply below_drew1 | refine below_set ?_ GE170.out | refine below_set ?_ GE174.out) | exact HB.out)⟩
                 ·
                  replace c77 := Bool.eq_false_iff.mpr c77
                  subst c77
                  have H1 : (interchangeref13_Right.l2 kj60 x4_2 0 l0_0 l0_1 ((rd_T29 l0_1 x4_2).f0) ((rd_T29 l0_1 x4_2).f1) ((rd_T29 l0_1 x4_2).f2) ((rd_T29 l0_1 x4_2).f3)) = some r := by rw [if_neg (show ¬ (false = true) by decide)] at H; exact H
                  clear H
                  have H := H1
                  clear H1
                  have H' := Aside0.mk H
                  clear H
                  go_wp2
                  repeat (go_quiet (fail); try go_wp2)
                  go_loopg [6] kj60 (fun kq v6 w' => ∃ (x6_6 : Int), v6 = .int .i64 x6_6 ∧ Aside0 (interchangeref13_Right.l2 kq x4_2 x6_6 l0_0 l0_1 ((rd_T29 l0_1 x4_2).f0) ((rd_T29 l0_1 x4_2).f1) ((rd_T29 l0_1 x4_2).f2) ((rd_T29 l0_1 x4_2).f3) = some r) ∧ Aside0 (kq ≤ kj60) ∧ Aside0 (w'.heap[gb170]? = some (.cells #[(.slice A0_0 l0_0.length c0_0), (.slice (some ad173) l0_1.length c0_1)] 25 (0, 0))) ∧ Aside0 (w'.heap[gb174]? = some (.cells #[.int .i64 ((rd_T29 l0_1 x4_2).f0), .int .i64 ((rd_T29 l0_1 x4_2).f1), .int .i64 ((rd_T29 l0_1 x4_2).f2), .int .i64 ((rd_T29 l0_1 x4_2).f3)] 29 (0, 0))) ∧ Aside0 (Below w.heap.size w w'))
                  case atStart => exact ⟨(0), (by first | rfl | (simp; done) | (simp [*]; done)), H', ⟨Nat.le_refl _⟩, ⟨by (with_reducible repeat (first | refine blk_drewN ?_ _ | refine blk_drew ?_ | refine blk_alloc ?_ _)); exact BK170.out⟩, ⟨by (with_reducible repeat (first | refine blk_drewN ?_ _ | refine blk_drew ?_ | refine blk_alloc ?_ _)); exact BK174.out⟩, ⟨by repeat (first | (with_reducible first | exact HB.out | apply below_alloc | apply pw_below_drewN | apply below_drew1 | refine below_set ?_ GE170.out | refine below_set ?_ GE174.out) | exact HB.out)⟩⟩
                  case round =>
                   clear H'
                   (try clear c1); (try clear p1); (try clear q1); (try clear hx1); (try clear c2); (try clear c2b0); (try clear c2b1); (try clear p2); (try clear c3); (try clear c4); (try clear c5); (try clear c6); (try clear p6); (try clear c7); (try clear c7b0); (try clear c8); (try clear c8b0); (try clear c9); (try clear c9b0); (try clear c11); (try clear c11b0); (try clear c15); (try clear c15b0); (try clear c16); (try clear c16b0); (try clear p17); (try clear q17); (try clear hx17); (try clear c20); (try clear c22); (try clear c22b0); (try clear c23); (try clear c25); (try clear c25b0); (try clear c26); (try clear c27); (try clear c29); (try clear c29b0); (try clear c30); (try clear c33); (try clear c33b0); (try clear c34); (try clear c34b0); (try clear c35); (try clear c35b0); (try clear c36); (try clear c39); (try clear c39b0); (try clear c40); (try clear c43); (try clear c43b0); (try clear c44); (try clear c47); (try clear c50); (try clear c52); (try clear c52b0); (try clear c52b1); (try clear c53); (try clear c53b0); (try clear c53b1); (try clear c54); (try clear c56); (try clear c58); (try clear c60); (try clear c62); (try clear c62b0); (try clear c64); (try clear c64b0); (try clear p64); (try clear c65); (try clear c65b0); (try clear c66); (try clear c66b0); (try clear c67); (try clear c70); (try clear c70b0); (try clear c70b1); (try clear c71); (try clear c74); (try clear c77); (try clear hcz10_0); (try clear hcz10_1); (try clear hcz12_0); (try clear hcz12_1); (try clear hcz13_0); (try clear hcz13_1); (try clear hcz14_0); (try clear hcz14_1); (try clear hcz18_0); (try clear hcz18_1); (try clear hcz21_0); (try clear hcz21_1); (try clear hcz21_2); (try clear hcz21_3); (try clear hcz24_0); (try clear hcz24_1); (try clear hcz24_2); (try clear hcz24_3); (try clear hcz27_0); (try clear hcz27_1); (try clear hcz27_2); (try clear hcz27_3); (try clear hcz28_0); (try clear hcz28_1); (try clear hcz31_0); (try clear hcz31_1); (try clear hcz31_2); (try clear hcz31_3); (try clear hcz32_0); (try clear hcz32_1); (try clear hcz37_0); (try clear hcz37_1); (try clear hcz37_2); (try clear hcz37_3); (try clear hcz38_0); (try clear hcz38_1); (try clear hcz41_0); (try clear hcz41_1); (try clear hcz41_2); (try clear hcz41_3); (try clear hcz42_0); (try clear hcz42_1); (try clear hcz45_0); (try clear hcz45_1); (try clear hcz45_2); (try clear hcz45_3); (try clear hcz46_0); (try clear hcz46_1); (try clear hcz48_0); (try clear hcz48_1); (try clear hcz48_2); (try clear hcz48_3); (try clear hcz49_0); (try clear hcz49_1); (try clear hcz4_0); (try clear hcz4_1); (try clear hcz55_0); (try clear hcz55_1); (try clear hcz55_2); (try clear hcz55_3); (try clear hcz57_0); (try clear hcz57_1); (try clear hcz57_2); (try clear hcz57_3); (try clear hcz59_0); (try clear hcz59_1); (try clear hcz59_2); (try clear hcz59_3); (try clear hcz68_0); (try clear hcz68_1); (try clear hcz69_0); (try clear hcz69_1); (try clear hcz69_2); (try clear hcz69_3); (try clear hcz6_0); (try clear hcz6_1); (try clear hcz72_0); (try clear hcz72_1); (try clear hcz73_0); (try clear hcz73_1); (try clear hcz73_2); (try clear hcz73_3); (try clear hcz75_0); (try clear hcz75_1); (try clear hcz76_0); (try clear hcz76_1); (try clear hcz76_2); (try clear hcz76_3); (try clear hfz10_0); (try clear hfz10_1); (try clear hfz12_0); (try clear hfz12_1); (try clear hfz13_0); (try clear hfz13_1); (try clear hfz14_0); (try clear hfz14_1); (try clear hfz18_0); (try clear hfz18_1); (try clear hfz21_0); (try clear hfz21_1); (try clear hfz21_2); (try clear hfz21_3); (try clear hfz24_0); (try clear hfz24_1); (try clear hfz24_2); (try clear hfz24_3); (try clear hfz27_0); (try clear hfz27_1); (try clear hfz27_2); (try clear hfz27_3); (try clear hfz28_0); (try clear hfz28_1); (try clear hfz31_0); (try clear hfz31_1); (try clear hfz31_2); (try clear hfz31_3); (try clear hfz32_0); (try clear hfz32_1); (try clear hfz37_0); (try clear hfz37_1); (try clear hfz37_2); (try clear hfz37_3); (try clear hfz38_0); (try clear hfz38_1); (try clear hfz41_0); (try clear hfz41_1); (try clear hfz41_2); (try clear hfz41_3); (try clear hfz42_0); (try clear hfz42_1); (try clear hfz45_0); (try clear hfz45_1); (try clear hfz45_2); (try clear hfz45_3); (try clear hfz46_0); (try clear hfz46_1); (try clear hfz48_0); (try clear hfz48_1); (try clear hfz48_2); (try clear hfz48_3); (try clear hfz49_0); (try clear hfz49_1); (try clear hfz4_0); (try clear hfz4_1); (try clear hfz55_0); (try clear hfz55_1); (try clear hfz55_2); (try clear hfz55_3); (try clear hfz57_0); (try clear hfz57_1); (try clear hfz57_2); (try clear hfz57_3); (try clear hfz59_0); (try clear hfz59_1); (try clear hfz59_2); (try clear hfz59_3); (try clear hfz68_0); (try clear hfz68_1); (try clear hfz69_0); (try clear hfz69_1); (try clear hfz69_2); (try clear hfz69_3); (try clear hfz6_0); (try clear hfz6_1); (try clear hfz72_0); (try clear hfz72_1); (try clear hfz73_0); (try clear hfz73_1); (try clear hfz73_2); (try clear hfz73_3); (try clear hfz75_0); (try clear hfz75_1); (try clear hfz76_0); (try clear hfz76_1); (try clear hfz76_2); (try clear hfz76_3); (try clear hx171_0); (try clear hx172_0); (try clear hx173_0); (try clear hx173_1); (try clear hx173_2); (try clear hx173_3); (try clear hx175_0); (try clear hx176_0); (try clear hx176_1); (try clear hx176_2); (try clear hx176_3); (try clear hx177_0); (try clear hx177_1); (try clear hx177_2); (try clear hx177_3); (try clear hx178_0); (try clear hx178_1); (try clear hx178_2); (try clear hx178_3); (try clear p1); (try clear p17); (try clear p171); (try clear p172); (try clear p173); (try clear p175); (try clear p176); (try clear p177); (try clear p178); (try clear p2); (try clear p6); (try clear p64); (try clear q1); (try clear q17); (try clear q171); (try clear q172); (try clear q173); (try clear q175); (try clear q176); (try clear q177); (try clear q178)
                   obtain ⟨x6_6, rfl, HA, HK6, BK170, BK174, HB⟩ := hrel
                   cases gk with
                   | zero => exact absurd HA.out (by simp [interchangeref13_Right.l2])
                   | succ k6 =>
                    have H := HA.out
                    clear HA
                    simp only [interchangeref13_Right.l2] at H
                    by_cases c78 : x6_6 < x4_2
                    ·
                     rw [if_pos c78] at H
                     have c78b0 : decide (x6_6 < x4_2) = true := decide_eq_true c78
                     clear c78
                     by_cases c79 : ((rd_T29 l0_1 x4_2).f3) = 0
                     ·
                      rw [if_pos c79] at H
                      have c79b0 : (((rd_T29 l0_1 x4_2).f3) == 0) = true := beq_iff_eq.mpr c79
                      have c79b1 : (((rd_T29 l0_1 x4_2).f3) != 0) = false := bne_eq_false_iff_eq.mpr c79
                      clear c79
                      have H' := Aside0.mk H
                      clear H
                      have hnb80 := NB174_170.out
                      have hnc80 := NB170_174.out
                      have hcz81_0 : wr.cell? ⟨gb174, 0, none⟩ = some (.int .i64 ((rd_T29 l0_1 x4_2).f0)) := (blk_cell BK174.out 0).trans rfl
                      have hcz81_1 : wr.cell? ⟨gb174, 1, none⟩ = some (.int .i64 ((rd_T29 l0_1 x4_2).f1)) := (blk_cell BK174.out 1).trans rfl
                      have hcz81_2 : wr.cell? ⟨gb174, 2, none⟩ = some (.int .i64 ((rd_T29 l0_1 x4_2).f2)) := (blk_cell BK174.out 2).trans rfl
                      have hcz81_3 : wr.cell? ⟨gb174, 3, none⟩ = some (.int .i64 ((rd_T29 l0_1 x4_2).f3)) := (blk_cell BK174.out 3).trans rfl
                      have hfz81_0 := blk_frozen BK174.out 0
                      have hfz81_1 := blk_frozen BK174.out 1
                      have hfz81_2 := blk_frozen BK174.out 2
                      have hfz81_3 := blk_frozen BK174.out 3
                      go_wp2
                      repeat (go_quiet (fail); try go_wp2)
                      go_roundg k6
                      case measure => have := HK1.out; have := HK2.out; have := HJ16.out; have := HJ50.out; have := HJ60.out; have := HK6.out; omega
                      case rel => exact ⟨(wrap64 (x6_6 + 1)), (by first | rfl | (simp; done) | (simp [*]; done)), H', ⟨by have := HK1.out; have := HK2.out; have := HJ16.out; have := HJ50.out; have := HJ60.out; have := HK6.out; omega⟩, ⟨by (with_reducible repeat (first | refine blk_drewN ?_ _ | refine blk_drew ?_ | refine blk_alloc ?_ _)); exact BK170.out⟩, ⟨by (with_reducible repeat (first | refine blk_drewN ?_ _ | refine blk_drew ?_ | refine blk_alloc ?_ _)); exact BK174.out⟩, ⟨by repeat (first | (with_reducible first | exact HB.out | apply below_alloc | apply pw_below_drewN | apply below_drew1 | refine below_set ?_ GE170.out | refine below_set ?_ GE174.out) | exact HB.out)⟩⟩
                     ·
                      rw [if_neg c79] at H
                      have c79b0 : (((rd_T29 l0_1 x4_2).f3) == 0) = false := beq_eq_false_iff_ne.mpr c79
                      have c79b1 : (((rd_T29 l0_1 x4_2).f3) != 0) = true := bne_iff_ne.mpr c79
                      by_cases c82 : 0 ≤ x6_6
                      ·
                       rw [if_pos c82] at H
                       have c82b0 : decide (0 ≤ x6_6) = true := decide_eq_true c82
                       clear c82
                       by_cases c83 : x6_6 < (l0_1.length : Int)
                       ·
                        rw [if_pos c83] at H
                        have c83b0 : decide (x6_6 < (l0_1.length : Int)) = true := decide_eq_true c83
                        clear c83
                        by_cases c84 : ((rd_T29 l0_1 x6_6).f3) = ((rd_T29 l0_1 x4_2).f3)
                        ·
                         rw [if_pos c84] at H
                         have c84b0 : (((rd_T29 l0_1 x6_6).f3) == ((rd_T29 l0_1 x4_2).f3)) = true := beq_iff_eq.mpr c84
                         have c84b1 : (((rd_T29 l0_1 x6_6).f3) != ((rd_T29 l0_1 x4_2).f3)) = false := bne_eq_false_iff_eq.mpr c84
                         clear c84
                         obtain rfl := Option.some.inj H
                         have hnb85 := NB174_170.out
                         have hnc85 := NB170_174.out
                         have hcz86_0 : wr.cell? ⟨gb174, 0, none⟩ = some (.int .i64 ((rd_T29 l0_1 x4_2).f0)) := (blk_cell BK174.out 0).trans rfl
                         have hcz86_1 : wr.cell? ⟨gb174, 1, none⟩ = some (.int .i64 ((rd_T29 l0_1 x4_2).f1)) := (blk_cell BK174.out 1).trans rfl
                         have hcz86_2 : wr.cell? ⟨gb174, 2, none⟩ = some (.int .i64 ((rd_T29 l0_1 x4_2).f2)) := (blk_cell BK174.out 2).trans rfl
                         have hcz86_3 : wr.cell? ⟨gb174, 3, none⟩ = some (.int .i64 ((rd_T29 l0_1 x4_2).f3)) := (blk_cell BK174.out 3).trans rfl
                         have hfz86_0 := blk_frozen BK174.out 0
                         have hfz86_1 := blk_frozen BK174.out 1
                         have hfz86_2 := blk_frozen BK174.out 2
                         have hfz86_3 := blk_frozen BK174.out 3
                         have hcz87_0 : wr.cell? ⟨gb170, 0, none⟩ = some (.slice A0_0 l0_0.length c0_0) := (blk_cell BK170.out 0).trans rfl
                         have hcz87_1 : wr.cell? ⟨gb170, 1, none⟩ = some (.slice (some ad173) l0_1.length c0_1) := (blk_cell BK170.out 1).trans rfl
                         have hfz87_0 := blk_frozen BK170.out 0
                         have hfz87_1 := blk_frozen BK170.out 1
                         have p179 : 0 ≤ (x6_6 : Int) := of_decide_eq_true (by first | (with_reducible assumption) | assumption)
                         have q179 : x6_6 < (l0_1.length : Int) := of_decide_eq_true (by first | (with_reducible assumption) | assumption)
                         obtain ⟨ad179, e179, hx179_0, hx179_1, hx179_2, hx179_3⟩ := at_T29 HR0_1.out x6_6 p179 q179
                         obtain rfl : ad173 = ad179 := (by injection e179)
                         replace hx179_0 := (HB.out.cell (World.block_lt_of_cell? w _ hx179_0)).trans hx179_0
                         replace hx179_1 := (HB.out.cell (World.block_lt_of_cell? w _ hx179_1)).trans hx179_1
                         replace hx179_2 := (HB.out.cell (World.block_lt_of_cell? w _ hx179_2)).trans hx179_2
                         replace hx179_3 := (HB.out.cell (World.block_lt_of_cell? w _ hx179_3)).trans hx179_3
                         replace p179 := eq_true p179
                         replace q179 := eq_true q179
                         go_wp2
                         repeat (go_quiet (fail); try go_wp2)
                         go_ret
                         exact ⟨by first | rfl | (simp [errW_none, errW_some] <;> rfl) | (simp [*, errW_none, errW_some] <;> rfl), by repeat (first | (with_reducible first | exact HB.out | apply below_alloc | apply pw_below_drewN | apply below_drew1 | refine below_set ?_ GE170.out | refine below_set ?_ GE174.out) | exact HB.out)⟩
                        ·
                         rw [if_neg c84] at H
                         have c84b0 : (((rd_T29 l0_1 x6_6).f3) == ((rd_T29 l0_1 x4_2).f3)) = false := beq_eq_false_iff_ne.mpr c84
                         have c84b1 : (((rd_T29 l0_1 x6_6).f3) != ((rd_T29 l0_1 x4_2).f3)) = true := bne_iff_ne.mpr c84
                         have H' := Aside0.mk H
                         clear H
                         have hnb88 := NB174_170.out
                         have hnc88 := NB170_174.out
                         have hcz89_0 : wr.cell? ⟨gb174, 0, none⟩ = some (.int .i64 ((rd_T29 l0_1 x4_2).f0)) := (blk_cell BK174.out 0).trans rfl
                         have hcz89_1 : wr.cell? ⟨gb174, 1, none⟩ = some (.int .i64 ((rd_T29 l0_1 x4_2).f1)) := (blk_cell BK174.out 1).trans rfl
                         have hcz89_2 : wr.cell? ⟨gb174, 2, none⟩ = some (.int .i64 ((rd_T29 l0_1 x4_2).f2)) := (blk_cell BK174.out 2).trans rfl
                         have hcz89_3 : wr.cell? ⟨gb174, 3, none⟩ = some (.int .i64 ((rd_T29 l0_1 x4_2).f3)) := (blk_cell BK174.out 3).trans rfl
                         have hfz89_0 := blk_frozen BK174.out 0
                         have hfz89_1 := blk_frozen BK174.out 1
                         have hfz89_2 := blk_frozen BK174.out 2
                         have hfz89_3 := blk_frozen BK174.out 3
                         have hcz90_0 : wr.cell? ⟨gb170, 0, none⟩ = some (.slice A0_0 l0_0.length c0_0) := (blk_cell BK170.out 0).trans rfl
                         have hcz90_1 : wr.cell? ⟨gb170, 1, none⟩ = some (.slice (some ad173) l0_1.length c0_1) := (blk_cell BK170.out 1).trans rfl
                         have hfz90_0 := blk_frozen BK170.out 0
                         have hfz90_1 := blk_frozen BK170.out 1
                         have p179 : 0 ≤ (x6_6 : Int) := of_decide_eq_true (by first | (with_reducible assumption) | assumption)
                         have q179 : x6_6 < (l0_1.length : Int) := of_decide_eq_true (by first | (with_reducible assumption) | assumption)
                         obtain ⟨ad179, e179, hx179_0, hx179_1, hx179_2, hx179_3⟩ := at_T29 HR0_1.out x6_6 p179 q179
                         obtain rfl : ad173 = ad179 := (by injection e179)
                         replace hx179_0 := (HB.out.cell (World.block_lt_of_cell? w _ hx179_0)).trans hx179_0
                         replace hx179_1 := (HB.out.cell (World.block_lt_of_cell? w _ hx179_1)).trans hx179_1
                         replace hx179_2 := (HB.out.cell (World.block_lt_of_cell? w _ hx179_2)).trans hx179_2
                         replace hx179_3 := (HB.out.cell (World.block_lt_of_cell? w _ hx179_3)).trans hx179_3
                         replace p179 := eq_true p179
                         replace q179 := eq_true q179
                         go_wp2
                         repeat (go_quiet (fail); try go_wp2)
                         go_roundg k6
                         case measure => have := HK1.out; have := HK2.out; have := HJ16.out; have := HJ50.out; have := HJ60.out; have := HK6.out; omega
                         case rel => exact ⟨(wrap64 (x6_6 + 1)), (by first | rfl | (simp; done) | (simp [*]; done)), H', ⟨by have := HK1.out; have := HK2.out; have := HJ16.out; have := HJ50.out; have := HJ60.out; have := HK6.out; omega⟩, ⟨by (with_reducible repeat (first | refine blk_drewN ?_ _ | refine blk_drew ?_ | refine blk_alloc ?_ _)); exact BK170.out⟩, ⟨by (with_reducible repeat (first | refine blk_drewN ?_ _ | refine blk_drew ?_ | refine blk_alloc ?_ _)); exact BK174.out⟩, ⟨by repeat (first | (with_reducible first | exact HB.out | apply below_alloc | apply pw_below_drewN | apply below_drew1 | refine below_set ?_ GE170.out | refine below_set ?_ GE174.out) | exact HB.out)⟩⟩
                       ·
                        rw [if_neg c83] at H
                        exact absurd H (by simp)
                      ·
                       rw [if_neg c82] at H
                       exact absurd H (by simp)
                    ·
                     rw [if_neg c78] at H
                     have c78b0 : decide (x6_6 < x4_2) = false := decide_eq_false c78
                     clear c78
                     have H' := Aside0.mk H
                     clear H
                     go_wp2
                     repeat (go_quiet (fail); try go_wp2)
                     go_roundg k6
                     case measure => have := HK1.out; have := HK2.out; have := HJ16.out; have := HJ50.out; have := HJ60.out; have := HK6.out; omega
                     case rel => exact ⟨(wrap64 (x4_2 + 1)), (by first | rfl | (simp; done) | (simp [*]; done)), H', ⟨by have := HK1.out; have := HK2.out; have := HJ16.out; have := HJ50.out; have := HJ60.out; have := HK6.out; omega⟩, ⟨by (with_reducible repeat (first | refine blk_drewN ?_ _ | refine blk_drew ?_ | refine blk_alloc ?_ _)); exact BK170.out⟩, ⟨by repeat (first | (with_reducible first | exact HB.out | apply below_alloc | apply pw_below_drewN | apply below_drew1 | refine below_set ?_ GE170.out | refine below_set ?_ GE174.out) | exact HB.out)⟩⟩
        ·
         rw [if_neg c16] at H
         exact absurd H (by simp)
       ·
        rw [if_neg c15] at H
        have c15b0 : decide (x4_2 < (l0_1.length : Int)) = false := decide_eq_false c15
        clear c15
        obtain rfl := Option.some.inj H
        have hcz91_0 : wr.cell? ⟨gb170, 0, none⟩ = some (.slice A0_0 l0_0.length c0_0) := (blk_cell BK170.out 0).trans rfl
        have hcz91_1 : wr.cell? ⟨gb170, 1, none⟩ = some (.slice A0_1 l0_1.length c0_1) := (blk_cell BK170.out 1).trans rfl
        have hfz91_0 := blk_frozen BK170.out 0
        have hfz91_1 := blk_frozen BK170.out 1
        go_wp2
        repeat (go_quiet (fail); try go_wp2)
        go_ret
        exact ⟨by first | rfl | (simp [errW_none, errW_some] <;> rfl) | (simp [*, errW_none, errW_some] <;> rfl), by repeat (first | (with_reducible first | exact HB.out | apply below_alloc | apply pw_below_drewN | apply below_drew1 | refine below_set ?_ GE170.out) | exact HB.out)⟩

end Go.Proofs.Ytgiofigjnchfeaa.Q
