/- This text was written by a program of this session: what each Go function computes, as a Lean function, and that its call does so. -/
import Derived.Test.YtgiofigjnchfeaaQ0
import Derived.Test.YtgiofigjnchfeaaQ10
import Derived.Test.YtgiofigjnchfeaaQ11
import Derived.Test.YtgiofigjnchfeaaQ15
import Derived.Test.YtgiofigjnchfeaaQE0
import Derived.Test.YtgiofigjnchfeaaH10
import Derived.Test.YtgiofigjnchfeaaH12
import Derived.Test.YtgiofigjnchfeaaH14
import Derived.Test.YtgiofigjnchfeaaV2
namespace Go.Proofs.Ytgiofigjnchfeaa.Q
open Go.RowKit Go.Proofs.YtgiofigjnchfeaaW.PrintWords Go.Proofs.YtgiofigjnchfeaaW.PrintLast Go.Proofs.YtgiofigjnchfeaaW.PrintMore
attribute [local go_sem] max2_int min2_int max_two min_two max_three min_three max_four min_four   -- for this text's walks alone
set_option linter.unusedVariables false
set_option linter.unusedSimpArgs false

attribute [local go_sem high] eqA29
/-! ### interchangelaw13_PoolFresh: function 4 -/
mutual
def interchangelaw13_PoolFresh.j0 : Nat → Bool → Bool → List Int → List (S29) → List Int → List (S29) → Option (Bool)
 | 0, _, _, _, _, _, _ => none
 | k + 1, x5, x88, x219000, x219001, x233000, x233001 => if x88 = true then (some false) else (interchangelaw13_PoolFresh.l0 k x5 0 x219000 x219001 x233000 x233001)
def interchangelaw13_PoolFresh.l0 : Nat → Bool → Int → List Int → List (S29) → List Int → List (S29) → Option (Bool)
 | 0, _, _, _, _, _, _ => none
 | k + 1, x5, x14, x219000, x219001, x233000, x233001 => if x14 < (x219001.length : Int) then (if 0 ≤ x14 then ((pool_At.f x233000 x233001 ((rd_T29 x219001 x14).f0) ((rd_T29 x219001 x14).f1)).bind fun bt249 => (if bt249.2.2.2.2 = true then (if (!(bt249.1 == ((rd_T29 x219001 x14).f0)) || (!(bt249.2.1 == ((rd_T29 x219001 x14).f1)) || (!(bt249.2.2.1 == ((rd_T29 x219001 x14).f2)) || (!(bt249.2.2.2.1 == ((rd_T29 x219001 x14).f3)))))) = true then (some false) else (interchangelaw13_PoolFresh.l0 k x5 (wrap64 (x14 + 1)) x219000 x219001 x233000 x233001)) else (some false))) else (none)) else (some x5)
end
def interchangelaw13_PoolFresh.f (k : Nat) (l0_0 : List Int) (l0_1 : List (S29)) (a1 : Int) : Option (Bool) := (interchangelaw13_shown.f k).bind fun t219 => ((interchangelaw13_few.f k l0_0 l0_1).bind fun t220 => (if t220 = true then ((pool_Lease.f l0_0 l0_1 a1).bind fun bt221 => (if bt221.2.2.2.2.2.2 = 0 then ((pool_At.f l0_0 l0_1 bt221.2.2.1 bt221.2.2.2.1).bind fun bt235 => ((pool_Of.f bt221.1 bt221.2.1 a1).bind fun bt241 => (if bt235.2.2.2.2 = true then (interchangelaw13_PoolFresh.j0 k true true l0_0 l0_1 bt221.1 bt221.2.1) else (if bt241.2.2.2.2 = true then (if (!(bt241.1 == bt221.2.2.1) || (!(bt241.2.1 == bt221.2.2.2.1) || (!(bt241.2.2.1 == bt221.2.2.2.2.1) || (!(bt241.2.2.2.1 == bt221.2.2.2.2.2.1))))) = true then (interchangelaw13_PoolFresh.j0 k true true l0_0 l0_1 bt221.1 bt221.2.1) else (if bt221.2.2.2.2.2.1 = a1 then (if bt221.2.2.2.2.1 = 1 then (interchangelaw13_PoolFresh.j0 k true ((bt221.2.1.length : Int) != (wrap64 ((l0_1.length : Int) + 1))) l0_0 l0_1 bt221.1 bt221.2.1) else (interchangelaw13_PoolFresh.j0 k true true l0_0 l0_1 bt221.1 bt221.2.1)) else (interchangelaw13_PoolFresh.j0 k true true l0_0 l0_1 bt221.1 bt221.2.1))) else (interchangelaw13_PoolFresh.j0 k true true l0_0 l0_1 bt221.1 bt221.2.1))))) else ((interchangeref13_Same.f k bt221.1 bt221.2.1 l0_0 l0_1).bind fun t234 => (if t234 = true then (some (bt221.2.2.1 == 0 && (bt221.2.2.2.1 == 0 && (bt221.2.2.2.2.1 == 0 && (bt221.2.2.2.2.2.1 == 0))))) else (some false))))) else (some true)))
theorem interchangelaw13_PoolFresh.mono_l : ∀ k, (∀ y0 y1 y2 y3 y4 y5, LeO (interchangelaw13_PoolFresh.j0 k y0 y1 y2 y3 y4 y5) (interchangelaw13_PoolFresh.j0 (k + 1) y0 y1 y2 y3 y4 y5)) ∧ (∀ y0 y1 y2 y3 y4 y5, LeO (interchangelaw13_PoolFresh.l0 k y0 y1 y2 y3 y4 y5) (interchangelaw13_PoolFresh.l0 (k + 1) y0 y1 y2 y3 y4 y5))
 | 0 => ⟨fun _ _ _ _ _ _ r h => by simp [interchangelaw13_PoolFresh.j0] at h, fun _ _ _ _ _ _ r h => by simp [interchangelaw13_PoolFresh.l0] at h⟩
 | k + 1 => by
  obtain ⟨ih0, ih1⟩ := interchangelaw13_PoolFresh.mono_l k
  refine ⟨?_, ?_⟩
  ·
   intro y0 y1 y2 y3 y4 y5
   unfold interchangelaw13_PoolFresh.j0
   repeat' first
   | (with_reducible exact ih0 _ _ _ _ _ _)
   | (with_reducible exact ih1 _ _ _ _ _ _)
   | (with_reducible exact interchangelaw13_few.mono _ _ _)
   | (with_reducible exact interchangelaw13_shown.mono _)
   | (with_reducible exact interchangeref13_Same.mono _ _ _ _ _)
   | (with_reducible exact LeO.refl _)
   | (with_reducible exact LeO.none _)
   | (with_reducible refine LeO.ite ?_ ?_)
   | (with_reducible refine LeO.bind ?_ (fun _ => ?_))
   | exact ih0 _ _ _ _ _ _
   | exact ih1 _ _ _ _ _ _
   | exact interchangelaw13_few.mono _ _ _
   | exact interchangelaw13_shown.mono _
   | exact interchangeref13_Same.mono _ _ _ _ _
   | exact LeO.none _
   | refine LeO.ite ?_ ?_
   | refine LeO.bind ?_ (fun _ => ?_)
  ·
   intro y0 y1 y2 y3 y4 y5
   unfold interchangelaw13_PoolFresh.l0
   repeat' first
   | (with_reducible exact ih0 _ _ _ _ _ _)
   | (with_reducible exact ih1 _ _ _ _ _ _)
   | (with_reducible exact interchangelaw13_few.mono _ _ _)
   | (with_reducible exact interchangelaw13_shown.mono _)
   | (with_reducible exact interchangeref13_Same.mono _ _ _ _ _)
   | (with_reducible exact LeO.refl _)
   | (with_reducible exact LeO.none _)
   | (with_reducible refine LeO.ite ?_ ?_)
   | (with_reducible refine LeO.bind ?_ (fun _ => ?_))
   | exact ih0 _ _ _ _ _ _
   | exact ih1 _ _ _ _ _ _
   | exact interchangelaw13_few.mono _ _ _
   | exact interchangelaw13_shown.mono _
   | exact interchangeref13_Same.mono _ _ _ _ _
   | exact LeO.none _
   | refine LeO.ite ?_ ?_
   | refine LeO.bind ?_ (fun _ => ?_)
theorem interchangelaw13_PoolFresh.mono : ∀ a0 a1 a2 k, LeO (interchangelaw13_PoolFresh.f k a0 a1 a2) (interchangelaw13_PoolFresh.f (k + 1) a0 a1 a2) := by
 intro a0 a1 a2 k
 obtain ⟨ih0, ih1⟩ := interchangelaw13_PoolFresh.mono_l k
 unfold interchangelaw13_PoolFresh.f
 repeat' first
   | (with_reducible exact ih0 _ _ _ _ _ _)
   | (with_reducible exact ih1 _ _ _ _ _ _)
   | (with_reducible exact interchangelaw13_few.mono _ _ _)
   | (with_reducible exact interchangelaw13_shown.mono _)
   | (with_reducible exact interchangeref13_Same.mono _ _ _ _ _)
   | (with_reducible exact LeO.refl _)
   | (with_reducible exact LeO.none _)
   | (with_reducible refine LeO.ite ?_ ?_)
   | (with_reducible refine LeO.bind ?_ (fun _ => ?_))
   | exact ih0 _ _ _ _ _ _
   | exact ih1 _ _ _ _ _ _
   | exact interchangelaw13_few.mono _ _ _
   | exact interchangelaw13_shown.mono _
   | exact interchangeref13_Same.mono _ _ _ _ _
   | exact LeO.none _
   | refine LeO.ite ?_ ?_
   | refine LeO.bind ?_ (fun _ => ?_)
def interchangelaw13_PoolFresh.T15 : Bool × List (List Nat × List Nat) := (true, [([], []), ([], []), ([1], [1]), ([], []), ([2, 3], [2, 3]), ([4], [4]), ([5], [5]), ([], []), ([7], [7]), ([], []), ([8, 9], [8, 9]), ([10], [10]), ([11], [11]), ([0, 6, 12], [0, 6, 12]), ([13], [13]), ([14], [14]), ([14], [14]), ([], []), ([17, 15, 13, 0, 1, 2, 3, 4, 5, 6, 7, 8, 9, 10, 11, 12, 13, 14, 15, 17], [15, 17]), ([16, 18, 0, 1, 2, 3, 4, 5, 6, 7, 8, 9, 10, 11, 12, 13, 14, 15, 16, 17, 18], [16])])
def interchangelaw13_PoolFresh.B15 : List Nat := [0, 0, 2, 0, 14, 30, 62, 0, 128, 0, 896, 1920, 3968, 8191, 16383, 32767, 32767, 0, 196607, 524287]
theorem interchangelaw13_PoolFresh.tab15 : rtab .any (opsOf Try.f4 15) = interchangelaw13_PoolFresh.T15 := by kernel_rfl
theorem interchangelaw13_PoolFresh.bits15 : waitsOk interchangelaw13_PoolFresh.T15.2 interchangelaw13_PoolFresh.B15 = true := by kernel_rfl
def interchangelaw13_PoolFresh.T16 : Bool × List (List Nat × List Nat) := (true, [([], []), ([0], [0]), ([1], [1]), ([2], [2]), ([2], [2]), ([4, 2], [2, 4]), ([2], [2]), ([5, 6, 2], [2, 5, 6]), ([7, 2], [2, 7]), ([3, 8, 2], [2, 3, 8]), ([2, 9], [2, 9])])
def interchangelaw13_PoolFresh.B16 : List Nat := [0, 1, 3, 7, 7, 23, 7, 119, 247, 511, 1023]
theorem interchangelaw13_PoolFresh.tab16 : rtab .any (opsOf Try.f4 16) = interchangelaw13_PoolFresh.T16 := by kernel_rfl
theorem interchangelaw13_PoolFresh.bits16 : waitsOk interchangelaw13_PoolFresh.T16.2 interchangelaw13_PoolFresh.B16 = true := by kernel_rfl
set_option maxHeartbeats 8000000 in
set_option maxRecDepth 100000 in
theorem interchangelaw13_PoolFresh.calls (k : Nat) (A0_0 : Option Addr) (c0_0 : Nat) (l0_0 : List Int) (A0_1 : Option Addr) (c0_1 : Nat) (l0_1 : List (S29)) (a1 : Int) (r : Bool) (w : World) (hr0_0 : Kd.C (Kd.int .i64) w A0_0 l0_0.length l0_0) (hc0_0 : l0_0.length ≤ c0_0) (hr0_1 : Kd.C k29 w A0_1 l0_1.length l0_1) (hc0_1 : l0_1.length ≤ c0_1) (hT_ : Aside0 (r = true)) (h : interchangelaw13_PoolFresh.f k l0_0 l0_1 a1 = some r) :
  Calls Try.prog 4 #[.agg #[.slice A0_0 l0_0.length c0_0, .slice A0_1 l0_1.length c0_1], .int .i64 a1] w fun e w' => e = .returned (.bool r) ∧ Below w.heap.size w w' := by
 have hu25 := Try.underlying25
 have hu29 := Try.underlying29
 have HR0_0 := Aside0.mk hr0_0
 have HC0_0 := Aside0.mk hc0_0
 clear hr0_0 hc0_0
 have HR0_1 := Aside0.mk hr0_1
 have HC0_1 := Aside0.mk hc0_1
 clear hr0_1 hc0_1
 have HB := Aside0.mk (Below.refl w.heap.size w)
 have H : ((interchangelaw13_shown.f k).bind fun t219 => ((interchangelaw13_few.f k l0_0 l0_1).bind fun t220 => (if t220 = true then ((pool_Lease.f l0_0 l0_1 a1).bind fun bt221 => (if bt221.2.2.2.2.2.2 = 0 then ((pool_At.f l0_0 l0_1 bt221.2.2.1 bt221.2.2.2.1).bind fun bt235 => ((pool_Of.f bt221.1 bt221.2.1 a1).bind fun bt241 => (if bt235.2.2.2.2 = true then (interchangelaw13_PoolFresh.j0 k true true l0_0 l0_1 bt221.1 bt221.2.1) else (if bt241.2.2.2.2 = true then (if (!(bt241.1 == bt221.2.2.1) || (!(bt241.2.1 == bt221.2.2.2.1) || (!(bt241.2.2.1 == bt221.2.2.2.2.1) || (!(bt241.2.2.2.1 == bt221.2.2.2.2.2.1))))) = true then (interchangelaw13_PoolFresh.j0 k true true l0_0 l0_1 bt221.1 bt221.2.1) else (if bt221.2.2.2.2.2.1 = a1 then (if bt221.2.2.2.2.1 = 1 then (interchangelaw13_PoolFresh.j0 k true ((bt221.2.1.length : Int) != (wrap64 ((l0_1.length : Int) + 1))) l0_0 l0_1 bt221.1 bt221.2.1) else (interchangelaw13_PoolFresh.j0 k true true l0_0 l0_1 bt221.1 bt221.2.1)) else (interchangelaw13_PoolFresh.j0 k true true l0_0 l0_1 bt221.1 bt221.2.1))) else (interchangelaw13_PoolFresh.j0 k true true l0_0 l0_1 bt221.1 bt221.2.1))))) else ((interchangeref13_Same.f k bt221.1 bt221.2.1 l0_0 l0_1).bind fun t234 => (if t234 = true then (some (bt221.2.2.1 == 0 && (bt221.2.2.2.1 == 0 && (bt221.2.2.2.2.1 == 0 && (bt221.2.2.2.2.2.1 == 0))))) else (some false))))) else (some true)))) = some r := h
 clear h
 replace H := Option.bind_eq_some_iff.mp H
 obtain ⟨t219, A30, H⟩ := H
 replace H : ((interchangelaw13_few.f k l0_0 l0_1).bind fun t220 => (if t220 = true then ((pool_Lease.f l0_0 l0_1 a1).bind fun bt221 => (if bt221.2.2.2.2.2.2 = 0 then ((pool_At.f l0_0 l0_1 bt221.2.2.1 bt221.2.2.2.1).bind fun bt235 => ((pool_Of.f bt221.1 bt221.2.1 a1).bind fun bt241 => (if bt235.2.2.2.2 = true then (interchangelaw13_PoolFresh.j0 k true true l0_0 l0_1 bt221.1 bt221.2.1) else (if bt241.2.2.2.2 = true then (if (!(bt241.1 == bt221.2.2.1) || (!(bt241.2.1 == bt221.2.2.2.1) || (!(bt241.2.2.1 == bt221.2.2.2.2.1) || (!(bt241.2.2.2.1 == bt221.2.2.2.2.2.1))))) = true then (interchangelaw13_PoolFresh.j0 k true true l0_0 l0_1 bt221.1 bt221.2.1) else (if bt221.2.2.2.2.2.1 = a1 then (if bt221.2.2.2.2.1 = 1 then (interchangelaw13_PoolFresh.j0 k true ((bt221.2.1.length : Int) != (wrap64 ((l0_1.length : Int) + 1))) l0_0 l0_1 bt221.1 bt221.2.1) else (interchangelaw13_PoolFresh.j0 k true true l0_0 l0_1 bt221.1 bt221.2.1)) else (interchangelaw13_PoolFresh.j0 k true true l0_0 l0_1 bt221.1 bt221.2.1))) else (interchangelaw13_PoolFresh.j0 k true true l0_0 l0_1 bt221.1 bt221.2.1))))) else ((interchangeref13_Same.f k bt221.1 bt221.2.1 l0_0 l0_1).bind fun t234 => (if t234 = true then (some (bt221.2.2.1 == 0 && (bt221.2.2.2.1 == 0 && (bt221.2.2.2.2.1 == 0 && (bt221.2.2.2.2.2.1 == 0))))) else (some false))))) else (some true))) = some r := H
 obtain rfl : true = t219 := interchangelaw13_shown_true A30
 have A3 := Aside0.mk A30
 clear A30
 replace H := Option.bind_eq_some_iff.mp H
 obtain ⟨t220, A40, H⟩ := H
 replace H : (if t220 = true then ((pool_Lease.f l0_0 l0_1 a1).bind fun bt221 => (if bt221.2.2.2.2.2.2 = 0 then ((pool_At.f l0_0 l0_1 bt221.2.2.1 bt221.2.2.2.1).bind fun bt235 => ((pool_Of.f bt221.1 bt221.2.1 a1).bind fun bt241 => (if bt235.2.2.2.2 = true then (interchangelaw13_PoolFresh.j0 k true true l0_0 l0_1 bt221.1 bt221.2.1) else (if bt241.2.2.2.2 = true then (if (!(bt241.1 == bt221.2.2.1) || (!(bt241.2.1 == bt221.2.2.2.1) || (!(bt241.2.2.1 == bt221.2.2.2.2.1) || (!(bt241.2.2.2.1 == bt221.2.2.2.2.2.1))))) = true then (interchangelaw13_PoolFresh.j0 k true true l0_0 l0_1 bt221.1 bt221.2.1) else (if bt221.2.2.2.2.2.1 = a1 then (if bt221.2.2.2.2.1 = 1 then (interchangelaw13_PoolFresh.j0 k true ((bt221.2.1.length : Int) != (wrap64 ((l0_1.length : Int) + 1))) l0_0 l0_1 bt221.1 bt221.2.1) else (interchangelaw13_PoolFresh.j0 k true true l0_0 l0_1 bt221.1 bt221.2.1)) else (interchangelaw13_PoolFresh.j0 k true true l0_0 l0_1 bt221.1 bt221.2.1))) else (interchangelaw13_PoolFresh.j0 k true true l0_0 l0_1 bt221.1 bt221.2.1))))) else ((interchangeref13_Same.f k bt221.1 bt221.2.1 l0_0 l0_1).bind fun t234 => (if t234 = true then (some (bt221.2.2.1 == 0 && (bt221.2.2.2.1 == 0 && (bt221.2.2.2.2.1 == 0 && (bt221.2.2.2.2.2.1 == 0))))) else (some false))))) else (some true)) = some r := H
 have A4 := Aside0.mk A40
 clear A40
 by_cases c5 : t220 = true
 ·
  subst c5
  have H1 : ((pool_Lease.f l0_0 l0_1 a1).bind fun bt221 => (if bt221.2.2.2.2.2.2 = 0 then ((pool_At.f l0_0 l0_1 bt221.2.2.1 bt221.2.2.2.1).bind fun bt235 => ((pool_Of.f bt221.1 bt221.2.1 a1).bind fun bt241 => (if bt235.2.2.2.2 = true then (interchangelaw13_PoolFresh.j0 k true true l0_0 l0_1 bt221.1 bt221.2.1) else (if bt241.2.2.2.2 = true then (if (!(bt241.1 == bt221.2.2.1) || (!(bt241.2.1 == bt221.2.2.2.1) || (!(bt241.2.2.1 == bt221.2.2.2.2.1) || (!(bt241.2.2.2.1 == bt221.2.2.2.2.2.1))))) = true then (interchangelaw13_PoolFresh.j0 k true true l0_0 l0_1 bt221.1 bt221.2.1) else (if bt221.2.2.2.2.2.1 = a1 then (if bt221.2.2.2.2.1 = 1 then (interchangelaw13_PoolFresh.j0 k true ((bt221.2.1.length : Int) != (wrap64 ((l0_1.length : Int) + 1))) l0_0 l0_1 bt221.1 bt221.2.1) else (interchangelaw13_PoolFresh.j0 k true true l0_0 l0_1 bt221.1 bt221.2.1)) else (interchangelaw13_PoolFresh.j0 k true true l0_0 l0_1 bt221.1 bt221.2.1))) else (interchangelaw13_PoolFresh.j0 k true true l0_0 l0_1 bt221.1 bt221.2.1))))) else ((interchangeref13_Same.f k bt221.1 bt221.2.1 l0_0 l0_1).bind fun t234 => (if t234 = true then (some (bt221.2.2.1 == 0 && (bt221.2.2.2.1 == 0 && (bt221.2.2.2.2.1 == 0 && (bt221.2.2.2.2.2.1 == 0))))) else (some false))))) = some r := by rw [if_pos rfl] at H; exact H
  clear H
  have H := H1
  clear H1
  replace H := Option.bind_eq_some_iff.mp H
  obtain ⟨⟨t221, t224, t227, t228, t229, t230, t231⟩, A60, H⟩ := H
  replace H : (if t231 = 0 then ((pool_At.f l0_0 l0_1 t227 t228).bind fun bt235 => ((pool_Of.f t221 t224 a1).bind fun bt241 => (if bt235.2.2.2.2 = true then (interchangelaw13_PoolFresh.j0 k true true l0_0 l0_1 t221 t224) else (if bt241.2.2.2.2 = true then (if (!(bt241.1 == t227) || (!(bt241.2.1 == t228) || (!(bt241.2.2.1 == t229) || (!(bt241.2.2.2.1 == t230))))) = true then (interchangelaw13_PoolFresh.j0 k true true l0_0 l0_1 t221 t224) else (if t230 = a1 then (if t229 = 1 then (interchangelaw13_PoolFresh.j0 k true ((t224.length : Int) != (wrap64 ((l0_1.length : Int) + 1))) l0_0 l0_1 t221 t224) else (interchangelaw13_PoolFresh.j0 k true true l0_0 l0_1 t221 t224)) else (interchangelaw13_PoolFresh.j0 k true true l0_0 l0_1 t221 t224))) else (interchangelaw13_PoolFresh.j0 k true true l0_0 l0_1 t221 t224))))) else ((interchangeref13_Same.f k t221 t224 l0_0 l0_1).bind fun t234 => (if t234 = true then (some (t227 == 0 && (t228 == 0 && (t229 == 0 && (t230 == 0))))) else (some false)))) = some r := H
  have A6 := Aside0.mk A60
  clear A60
  by_cases c7 : t231 = 0
  ·
   rw [if_pos c7] at H
   have c7b0 : (t231 == 0) = true := beq_iff_eq.mpr c7
   have c7b1 : (t231 != 0) = false := bne_eq_false_iff_eq.mpr c7
   clear c7
   replace H := Option.bind_eq_some_iff.mp H
   obtain ⟨⟨t235, t236, t237, t238, t239⟩, A80, H⟩ := H
   replace H : ((pool_Of.f t221 t224 a1).bind fun bt241 => (if t239 = true then (interchangelaw13_PoolFresh.j0 k true true l0_0 l0_1 t221 t224) else (if bt241.2.2.2.2 = true then (if (!(bt241.1 == t227) || (!(bt241.2.1 == t228) || (!(bt241.2.2.1 == t229) || (!(bt241.2.2.2.1 == t230))))) = true then (interchangelaw13_PoolFresh.j0 k true true l0_0 l0_1 t221 t224) else (if t230 = a1 then (if t229 = 1 then (interchangelaw13_PoolFresh.j0 k true ((t224.length : Int) != (wrap64 ((l0_1.length : Int) + 1))) l0_0 l0_1 t221 t224) else (interchangelaw13_PoolFresh.j0 k true true l0_0 l0_1 t221 t224)) else (interchangelaw13_PoolFresh.j0 k true true l0_0 l0_1 t221 t224))) else (interchangelaw13_PoolFresh.j0 k true true l0_0 l0_1 t221 t224)))) = some r := H
   have A8 := Aside0.mk A80
   clear A80
   replace H := Option.bind_eq_some_iff.mp H
   obtain ⟨⟨t241, t242, t243, t244, t245⟩, A90, H⟩ := H
   replace H : (if t239 = true then (interchangelaw13_PoolFresh.j0 k true true l0_0 l0_1 t221 t224) else (if t245 = true then (if (!(t241 == t227) || (!(t242 == t228) || (!(t243 == t229) || (!(t244 == t230))))) = true then (interchangelaw13_PoolFresh.j0 k true true l0_0 l0_1 t221 t224) else (if t230 = a1 then (if t229 = 1 then (interchangelaw13_PoolFresh.j0 k true ((t224.length : Int) != (wrap64 ((l0_1.length : Int) + 1))) l0_0 l0_1 t221 t224) else (interchangelaw13_PoolFresh.j0 k true true l0_0 l0_1 t221 t224)) else (interchangelaw13_PoolFresh.j0 k true true l0_0 l0_1 t221 t224))) else (interchangelaw13_PoolFresh.j0 k true true l0_0 l0_1 t221 t224))) = some r := H
   have A9 := Aside0.mk A90
   clear A90
   have HC10 := Aside0.mk H
   clear H
   go_enter Try.func4, Try.ntmps4
   go_upto_region 10 with (first | ((with_reducible refine gate_dst (N := 2) rfl ?_); (try (refine gate_guard (by rfl) ?_; dsimp only)); refine box_event ?hg (N := 2) ?hd (cs := #[.slice A0_0 l0_0.length c0_0, .slice A0_1 l0_1.length c0_1]) (t := 25) ?hr ?_; (case hd => rfl); (case hg => rfl); (case hr => first | (go_simp; done) | (go_simp; rfl)); intro gb218 hg w11 hbox hb; have BK218 := Aside0.mk (hbox); have GW218 := Aside0.mk ((by rw [hg]; exact (below_size (bl HB.out)) : w.heap.size ≤ gb218)); have GE218 := GW218; replace HB := hs HB hb; clear hb hbox hg) | ((with_reducible refine gate_callee (f := 10) rfl ?_); refine goesL_ (some 17) rfl rfl Try.func10 (by kernel_rfl) rfl #[] rfl (by (try simp only [List.map_toArray, List.map_cons, List.map_nil]); first | done | rfl | (simp only [List.length_drop, List.length_take]; rfl)) ?_; (with_reducible refine (interchangelaw13_shown.calls k  true _ ⟨rfl⟩ A3.out).mono ?_); rintro e w12 ⟨rfl, hb⟩; refine ⟨_, rfl, ?_⟩; replace BK218 := bb BK218 hb; replace HB := Aside0.mk (below_step (by repeat (first | (with_reducible first | exact HB.out | apply bA | apply bN | apply bD | refine bS ?_ ‹_›) | exact HB.out)) hb); (try clear hb); (try clear hb2); (try clear hk); (try clear hi); have hcz13_0 : w12.cell? ⟨gb218, 0, none⟩ = some (.slice A0_0 l0_0.length c0_0) := (blk_cell BK218.out 0).trans rfl; have hcz13_1 : w12.cell? ⟨gb218, 1, none⟩ = some (.slice A0_1 l0_1.length c0_1) := (blk_cell BK218.out 1).trans rfl; have hfz13_0 := blk_frozen BK218.out 0; have hfz13_1 := blk_frozen BK218.out 1) | ((with_reducible refine gate_callee (f := 11) rfl ?_); refine goesL_ (some 19) rfl rfl Try.func11 (by kernel_rfl) rfl #[.agg #[.slice A0_0 l0_0.length c0_0, .slice A0_1 l0_1.length c0_1]] rfl (by (try simp only [List.map_toArray, List.map_cons, List.map_nil]); first | done | rfl | (simp only [List.length_drop, List.length_take]; rfl)) ?_; (with_reducible refine (interchangelaw13_few.calls k _ _ l0_0 _ _ l0_1 true _ ?side1 ?side2 ?side3 ?side4 A4.out).mono ?_); (case side1 => exact ck (Kd.C_below HR0_0.out HB.out)); (case side2 => exact HC0_0.out); (case side3 => exact ck (Kd.C_below HR0_1.out HB.out)); (case side4 => exact HC0_1.out); rintro e w14 ⟨rfl, hb⟩; refine ⟨_, rfl, ?_⟩; replace BK218 := bb BK218 hb; replace HB := Aside0.mk (below_step (by repeat (first | (with_reducible first | exact HB.out | apply bA | apply bN | apply bD | refine bS ?_ ‹_›) | exact HB.out)) hb); (try clear hb); (try clear hb2); (try clear hk); (try clear hi); have hcz15_0 : w14.cell? ⟨gb218, 0, none⟩ = some (.slice A0_0 l0_0.length c0_0) := (blk_cell BK218.out 0).trans rfl; have hcz15_1 : w14.cell? ⟨gb218, 1, none⟩ = some (.slice A0_1 l0_1.length c0_1) := (blk_cell BK218.out 1).trans rfl; have hfz15_0 := blk_frozen BK218.out 0; have hfz15_1 := blk_frozen BK218.out 1) | ((with_reducible refine gate_callee (f := 12) rfl ?_); refine goesL_ (some 26) rfl rfl Try.func12 (by kernel_rfl) rfl #[.agg #[.slice A0_0 l0_0.length c0_0, .slice A0_1 l0_1.length c0_1], .int .i64 a1] rfl (by (try simp only [List.map_toArray, List.map_cons, List.map_nil]); first | done | rfl | (simp only [List.length_drop, List.length_take]; rfl)) ?_; (with_reducible refine (pool_Lease.calls (fun k_ => k_ < w.heap.size) _ _ l0_0 (fun k_ => k_ < w.heap.size) _ _ l0_1 a1 t221 t224 t227 t228 t229 t230 t231 _ ?side1 ?side2 A6.out).mono ?_); (case side1 => exact Kd.V_mk HC0_0.out (Kd.F_below (Kd.C_F (Kd.heap_int .i64) HR0_0.out) (by repeat (first | (with_reducible first | exact HB.out | apply bA | apply bN | apply bD | refine bS ?_ ‹_›) | exact HB.out)))); (case side2 => exact Kd.V_mk HC0_1.out (Kd.F_below (Kd.C_F k29_heap HR0_1.out) (by repeat (first | (with_reducible first | exact HB.out | apply bA | apply bN | apply bD | refine bS ?_ ‹_›) | exact HB.out)))); rintro e w16 ⟨v222, v225, rfl, ho0, ho1, hb⟩; refine ⟨_, rfl, ?_⟩; have HO223 := Aside0.mk (Kd.V_lower (Kd.V_mono (ok' := fun k_ => k_ ≠ gb218) ho0 (fun k_ hk_ => Or.elim hk_ (fun hs_ => Or.elim hs_ (fun hs_ => fun e_ => Nat.not_le.2 hs_ (by rw [e_]; exact GW218.out)) (fun hs_ => fun e_ => Nat.not_le.2 hs_ (by rw [e_]; exact GW218.out))) (fun hn_ => (Kd.freshB (bk BK218.out) k_ hn_)))) (below_size (by repeat (first | (with_reducible first | exact HB.out | apply bA | apply bN | apply bD | refine bS ?_ ‹_›) | exact HB.out)))); have HO226 := Aside0.mk (Kd.V_lower (Kd.V_mono (ok' := fun k_ => k_ ≠ gb218) ho1 (fun k_ hk_ => Or.elim hk_ (fun hs_ => Or.elim hs_ (fun hs_ => fun e_ => Nat.not_le.2 hs_ (by rw [e_]; exact GW218.out)) (fun hs_ => fun e_ => Nat.not_le.2 hs_ (by rw [e_]; exact GW218.out))) (fun hn_ => (Kd.freshB (bk BK218.out) k_ hn_)))) (below_size (by repeat (first | (with_reducible first | exact HB.out | apply bA | apply bN | apply bD | refine bS ?_ ‹_›) | exact HB.out)))); replace BK218 := bb BK218 hb; replace HB := Aside0.mk (below_step (by repeat (first | (with_reducible first | exact HB.out | apply bA | apply bN | apply bD | refine bS ?_ ‹_›) | exact HB.out)) hb); (try clear hb); (try clear hb2); (try clear hk); (try clear hi); (try clear ho0); (try clear ho1)) | ((with_reducible refine gate_dst (N := 7) rfl ?_); (try (refine gate_guard (by rfl) ?_; dsimp only)); refine box_event ?hg (N := 7) ?hd (cs := #[.slice none 0 0, .slice none 0 0]) (t := 25) ?hr ?_; (case hd => rfl); (case hg => rfl); (case hr => first | (go_simp; done) | (go_simp; rfl)); intro gb232 hg w17 hbox hb; have BK232 := Aside0.mk (hbox); have GW232 := Aside0.mk ((by rw [hg]; exact (below_size (by repeat (first | (with_reducible first | exact HB.out | apply bA | apply bN | apply bD | refine bS ?_ ‹_›) | exact HB.out))) : w.heap.size ≤ gb232)); have GE232 := GW232; have NB218_232 := nl BK218 hg; have NB232_218 := ng BK218 hg; replace HO223 := ve HO223 hg hb; replace HO226 := ve HO226 hg hb; replace BK218 := bb BK218 hb; replace HB := Aside0.mk (below_step (by repeat (first | (with_reducible first | exact HB.out | apply bA | apply bN | apply bD | refine bS ?_ ‹_›) | exact HB.out)) hb); clear hb hbox hg) | ((with_reducible refine gate_dst (N := 8) rfl ?_); (try (refine gate_guard (by rfl) ?_; dsimp only)); refine box_event ?hg (N := 8) ?hd (cs := #[.int .i64 0, .int .i64 0, .int .i64 0, .int .i64 0]) (t := 29) ?hr ?_; (case hd => rfl); (case hg => rfl); (case hr => first | (go_simp; done) | (go_simp; rfl)); intro gb233 hg w18 hbox hb; have BK233 := Aside0.mk (hbox); have GW233 := Aside0.mk ((by rw [hg]; exact (below_size (by repeat (first | (with_reducible first | exact HB.out | apply bA | apply bN | apply bD | refine bS ?_ ‹_›) | exact HB.out))) : w.heap.size ≤ gb233)); have GE233 := GW233; have NB218_233 := nl BK218 hg; have NB233_218 := ng BK218 hg; have NB232_233 := nl BK232 hg; have NB233_232 := ng BK232 hg; replace HO223 := ve HO223 hg hb; replace HO226 := ve HO226 hg hb; replace BK218 := bb BK218 hb; replace BK232 := bb BK232 hb; replace HB := Aside0.mk (below_step (by repeat (first | (with_reducible first | exact HB.out | apply bA | apply bN | apply bD | refine bS ?_ ‹_›) | exact HB.out)) hb); clear hb hbox hg; obtain ⟨Ao19, co19, eo19⟩ := Kd.V_slice HO223.out; subst eo19; have hnb20 := NB232_218.out; have hnc20 := NB218_232.out; have hnb21 := NB232_233.out; have hnc21 := NB233_232.out; have hcz22_0 : w18.cell? ⟨gb232, 0, none⟩ = some (.slice none 0 0) := (blk_cell BK232.out 0).trans rfl; have hcz22_1 : w18.cell? ⟨gb232, 1, none⟩ = some (.slice none 0 0) := (blk_cell BK232.out 1).trans rfl; have hfz22_0 := blk_frozen BK232.out 0; have hfz22_1 := blk_frozen BK232.out 1; obtain ⟨Ao23, co23, eo23⟩ := Kd.V_slice HO226.out; subst eo23; have hnb24 := NB233_218.out; have hnc24 := NB218_233.out; have hcz25_0 : w18.cell? ⟨gb233, 0, none⟩ = some (.int .i64 0) := (blk_cell BK233.out 0).trans rfl; have hcz25_1 : w18.cell? ⟨gb233, 1, none⟩ = some (.int .i64 0) := (blk_cell BK233.out 1).trans rfl; have hcz25_2 : w18.cell? ⟨gb233, 2, none⟩ = some (.int .i64 0) := (blk_cell BK233.out 2).trans rfl; have hcz25_3 : w18.cell? ⟨gb233, 3, none⟩ = some (.int .i64 0) := (blk_cell BK233.out 3).trans rfl; have hfz25_0 := blk_frozen BK233.out 0; have hfz25_1 := blk_frozen BK233.out 1; have hfz25_2 := blk_frozen BK233.out 2; have hfz25_3 := blk_frozen BK233.out 3; have hcz26_0 : w18.cell? ⟨gb218, 0, none⟩ = some (.slice A0_0 l0_0.length c0_0) := (blk_cell BK218.out 0).trans rfl; have hcz26_1 : w18.cell? ⟨gb218, 1, none⟩ = some (.slice A0_1 l0_1.length c0_1) := (blk_cell BK218.out 1).trans rfl; have hfz26_0 := blk_frozen BK218.out 0; have hfz26_1 := blk_frozen BK218.out 1) | ((with_reducible refine gate_callee (f := 16) rfl ?_); refine goesL_ (some 49) rfl rfl Try.func16 (by kernel_rfl) rfl #[.agg #[.slice A0_0 l0_0.length c0_0, .slice A0_1 l0_1.length c0_1], .int .i64 t227, .int .i64 t228] rfl (by (try simp only [List.map_toArray, List.map_cons, List.map_nil]); first | done | rfl | (simp only [List.length_drop, List.length_take]; rfl)) ?_; (with_reducible refine (pool_At.calls _ _ l0_0 _ _ l0_1 t227 t228 t235 t236 t237 t238 t239 _ ?side1 ?side2 ?side3 ?side4 A8.out).mono ?_); (case side1 => exact Kd.C_below HR0_0.out (by repeat (first | (with_reducible first | exact HB.out | apply bA | apply bN | apply bD | refine bS ?_ ‹_›) | exact HB.out))); (case side2 => exact HC0_0.out); (case side3 => exact Kd.C_below HR0_1.out (by repeat (first | (with_reducible first | exact HB.out | apply bA | apply bN | apply bD | refine bS ?_ ‹_›) | exact HB.out))); (case side4 => exact HC0_1.out); rintro e w27 ⟨rfl, hb⟩; refine ⟨_, rfl, ?_⟩; replace HO223 := Aside0.mk (Kd.V_below (by (with_reducible repeat (first | apply Kd.V_alloc | apply Kd.V_drewN | apply Kd.V_drew)); exact (Kd.V_mono (Kd.V_mono (Kd.V_far (p := ⟨gb233, 3, none⟩) (Kd.V_far (p := ⟨gb233, 2, none⟩) (Kd.V_far (p := ⟨gb233, 1, none⟩) (Kd.V_far (p := ⟨gb233, 0, none⟩) (Kd.V_far (p := ⟨gb232, 1, none⟩) (Kd.V_far (p := ⟨gb232, 0, none⟩) (Kd.V_mono (Kd.V_mono HO223.out (fun k_ hk => (⟨hk, hk.1.2⟩ : _ ∧ k_ ≠ gb232))) (fun k_ hk => (⟨hk, hk.1.2⟩ : _ ∧ k_ ≠ gb233))) (fun _ hk => hk.1.2) (.slice Ao19 t221.length co19)) (fun _ hk => hk.1.2) (.slice Ao23 t224.length co23)) (fun _ hk => hk.2) (.int .i64 t227)) (fun _ hk => hk.2) (.int .i64 t228)) (fun _ hk => hk.2) (.int .i64 t229)) (fun _ hk => hk.2) (.int .i64 t230)) (fun _ h_ => h_.1)) (fun _ h_ => h_.1))) hb); replace HO226 := Aside0.mk (Kd.V_below (by (with_reducible repeat (first | apply Kd.V_alloc | apply Kd.V_drewN | apply Kd.V_drew)); exact (Kd.V_mono (Kd.V_mono (Kd.V_far (p := ⟨gb233, 3, none⟩) (Kd.V_far (p := ⟨gb233, 2, none⟩) (Kd.V_far (p := ⟨gb233, 1, none⟩) (Kd.V_far (p := ⟨gb233, 0, none⟩) (Kd.V_far (p := ⟨gb232, 1, none⟩) (Kd.V_far (p := ⟨gb232, 0, none⟩) (Kd.V_mono (Kd.V_mono HO226.out (fun k_ hk => (⟨hk, hk.1.2⟩ : _ ∧ k_ ≠ gb232))) (fun k_ hk => (⟨hk, hk.1.2⟩ : _ ∧ k_ ≠ gb233))) (fun _ hk => hk.1.2) (.slice Ao19 t221.length co19)) (fun _ hk => hk.1.2) (.slice Ao23 t224.length co23)) (fun _ hk => hk.2) (.int .i64 t227)) (fun _ hk => hk.2) (.int .i64 t228)) (fun _ hk => hk.2) (.int .i64 t229)) (fun _ hk => hk.2) (.int .i64 t230)) (fun _ h_ => h_.1)) (fun _ h_ => h_.1))) hb); replace BK218 := Aside0.mk (blk_below (g := gb218) (o := .cells #[.slice A0_0 l0_0.length c0_0, .slice A0_1 l0_1.length c0_1] 25 (0, 0)) (by (with_reducible repeat (first | refine blk_drewN ?_ _ | refine blk_drew ?_ | refine blk_alloc ?_ _)); refine blk_far ?_ NB218_233.out _; (with_reducible repeat (first | refine blk_drewN ?_ _ | refine blk_drew ?_ | refine blk_alloc ?_ _)); refine blk_far ?_ NB218_233.out _; (with_reducible repeat (first | refine blk_drewN ?_ _ | refine blk_drew ?_ | refine blk_alloc ?_ _)); refine blk_far ?_ NB218_233.out _; (with_reducible repeat (first | refine blk_drewN ?_ _ | refine blk_drew ?_ | refine blk_alloc ?_ _)); refine blk_far ?_ NB218_233.out _; (with_reducible repeat (first | refine blk_drewN ?_ _ | refine blk_drew ?_ | refine blk_alloc ?_ _)); refine blk_far ?_ NB218_232.out _; (with_reducible repeat (first | refine blk_drewN ?_ _ | refine blk_drew ?_ | refine blk_alloc ?_ _)); refine blk_far ?_ NB218_232.out _; (with_reducible repeat (first | refine blk_drewN ?_ _ | refine blk_drew ?_ | refine blk_alloc ?_ _)); exact BK218.out) hb); replace BK232 := Aside0.mk (blk_below (g := gb232) (o := .cells #[.slice Ao19 t221.length co19, .slice Ao23 t224.length co23] 25 (0, 0)) (by (with_reducible repeat (first | refine blk_drewN ?_ _ | refine blk_drew ?_ | refine blk_alloc ?_ _)); refine blk_far ?_ NB232_233.out _; (with_reducible repeat (first | refine blk_drewN ?_ _ | refine blk_drew ?_ | refine blk_alloc ?_ _)); refine blk_far ?_ NB232_233.out _; (with_reducible repeat (first | refine blk_drewN ?_ _ | refine blk_drew ?_ | refine blk_alloc ?_ _)); refine blk_far ?_ NB232_233.out _; (with_reducible repeat (first | refine blk_drewN ?_ _ | refine blk_drew ?_ | refine blk_alloc ?_ _)); refine blk_far ?_ NB232_233.out _; (with_reducible repeat (first | refine blk_drewN ?_ _ | refine blk_drew ?_ | refine blk_alloc ?_ _)); refine blk_put (cs := #[.slice Ao19 t221.length co19, .slice none 0 0]) ?_ 1 _ rfl; (with_reducible repeat (first | refine blk_drewN ?_ _ | refine blk_drew ?_ | refine blk_alloc ?_ _)); refine blk_put (cs := #[.slice none 0 0, .slice none 0 0]) ?_ 0 _ rfl; (with_reducible repeat (first | refine blk_drewN ?_ _ | refine blk_drew ?_ | refine blk_alloc ?_ _)); exact BK232.out) hb); replace BK233 := Aside0.mk (blk_below (g := gb233) (o := .cells #[.int .i64 t227, .int .i64 t228, .int .i64 t229, .int .i64 t230] 29 (0, 0)) (by (with_reducible repeat (first | refine blk_drewN ?_ _ | refine blk_drew ?_ | refine blk_alloc ?_ _)); refine blk_put (cs := #[.int .i64 t227, .int .i64 t228, .int .i64 t229, .int .i64 0]) ?_ 3 _ rfl; (with_reducible repeat (first | refine blk_drewN ?_ _ | refine blk_drew ?_ | refine blk_alloc ?_ _)); refine blk_put (cs := #[.int .i64 t227, .int .i64 t228, .int .i64 0, .int .i64 0]) ?_ 2 _ rfl; (with_reducible repeat (first | refine blk_drewN ?_ _ | refine blk_drew ?_ | refine blk_alloc ?_ _)); refine blk_put (cs := #[.int .i64 t227, .int .i64 0, .int .i64 0, .int .i64 0]) ?_ 1 _ rfl; (with_reducible repeat (first | refine blk_drewN ?_ _ | refine blk_drew ?_ | refine blk_alloc ?_ _)); refine blk_put (cs := #[.int .i64 0, .int .i64 0, .int .i64 0, .int .i64 0]) ?_ 0 _ rfl; (with_reducible repeat (first | refine blk_drewN ?_ _ | refine blk_drew ?_ | refine blk_alloc ?_ _)); refine blk_far ?_ NB233_232.out _; (with_reducible repeat (first | refine blk_drewN ?_ _ | refine blk_drew ?_ | refine blk_alloc ?_ _)); refine blk_far ?_ NB233_232.out _; (with_reducible repeat (first | refine blk_drewN ?_ _ | refine blk_drew ?_ | refine blk_alloc ?_ _)); exact BK233.out) hb); replace HB := Aside0.mk (below_step (by repeat (first | (with_reducible first | exact HB.out | apply bA | apply bN | apply bD | refine bS ?_ ‹_›) | exact HB.out)) hb); (try clear hb); (try clear hb2); (try clear hk); (try clear hi)) | ((with_reducible refine gate_dst (N := 10) rfl ?_); (try (refine gate_guard (by rfl) ?_; dsimp only)); refine box_event ?hg (N := 10) ?hd (cs := #[.int .i64 0, .int .i64 0, .int .i64 0, .int .i64 0]) (t := 29) ?hr ?_; (case hd => rfl); (case hg => rfl); (case hr => first | (go_simp; done) | (go_simp; rfl)); intro gb240 hg w28 hbox hb; have BK240 := Aside0.mk (hbox); have GW240 := Aside0.mk ((by rw [hg]; exact (below_size (by repeat (first | (with_reducible first | exact HB.out | apply bA | apply bN | apply bD | refine bS ?_ ‹_›) | exact HB.out))) : w.heap.size ≤ gb240)); have GE240 := GW240; have NB218_240 := nl BK218 hg; have NB240_218 := ng BK218 hg; have NB232_240 := nl BK232 hg; have NB240_232 := ng BK232 hg; have NB233_240 := nl BK233 hg; have NB240_233 := ng BK233 hg; replace HO223 := ve HO223 hg hb; replace HO226 := ve HO226 hg hb; replace BK218 := bb BK218 hb; replace BK232 := bb BK232 hb; replace BK233 := bb BK233 hb; replace HB := Aside0.mk (below_step (by repeat (first | (with_reducible first | exact HB.out | apply bA | apply bN | apply bD | refine bS ?_ ‹_›) | exact HB.out)) hb); clear hb hbox hg; have hnb29 := NB240_218.out; have hnc29 := NB218_240.out; have hnb30 := NB240_232.out; have hnc30 := NB232_240.out; have hnb31 := NB240_233.out; have hnc31 := NB233_240.out; have hcz32_0 : w28.cell? ⟨gb240, 0, none⟩ = some (.int .i64 0) := (blk_cell BK240.out 0).trans rfl; have hcz32_1 : w28.cell? ⟨gb240, 1, none⟩ = some (.int .i64 0) := (blk_cell BK240.out 1).trans rfl; have hcz32_2 : w28.cell? ⟨gb240, 2, none⟩ = some (.int .i64 0) := (blk_cell BK240.out 2).trans rfl; have hcz32_3 : w28.cell? ⟨gb240, 3, none⟩ = some (.int .i64 0) := (blk_cell BK240.out 3).trans rfl; have hfz32_0 := blk_frozen BK240.out 0; have hfz32_1 := blk_frozen BK240.out 1; have hfz32_2 := blk_frozen BK240.out 2; have hfz32_3 := blk_frozen BK240.out 3; have hcz33_0 : w28.cell? ⟨gb232, 0, none⟩ = some (.slice Ao19 t221.length co19) := (blk_cell BK232.out 0).trans rfl; have hcz33_1 : w28.cell? ⟨gb232, 1, none⟩ = some (.slice Ao23 t224.length co23) := (blk_cell BK232.out 1).trans rfl; have hfz33_0 := blk_frozen BK232.out 0; have hfz33_1 := blk_frozen BK232.out 1) | ((with_reducible refine gate_callee (f := 14) rfl ?_); refine goesL_ (some 55) rfl rfl Try.func14 (by kernel_rfl) rfl #[.agg #[.slice Ao19 t221.length co19, .slice Ao23 t224.length co23], .int .i64 a1] rfl (by (try simp only [List.map_toArray, List.map_cons, List.map_nil]); first | done | rfl | (simp only [List.length_drop, List.length_take]; rfl)) ?_; (with_reducible refine (pool_Of.calls _ _ t221 _ _ t224 a1 t241 t242 t243 t244 t245 _ ?side1 ?side2 ?side3 ?side4 A9.out).mono ?_); (case side1 => refine (Kd.V_reads' (e := 3) (base := w.heap.size) (ok := fun k_ => (((k_ ≠ gb218 ∧ k_ ≠ gb232) ∧ k_ ≠ gb233) ∧ k_ ≠ gb240)) (n := t221.length) (c := co19) ?_).2.2; exact (by (with_reducible repeat (first | apply Kd.V_alloc | apply Kd.V_drewN | apply Kd.V_drew)); exact (Kd.V_mono (Kd.V_far (p := ⟨gb240, 3, none⟩) (Kd.V_far (p := ⟨gb240, 2, none⟩) (Kd.V_far (p := ⟨gb240, 1, none⟩) (Kd.V_far (p := ⟨gb240, 0, none⟩) (Kd.V_mono HO223.out (fun k_ hk => (⟨hk, hk.2⟩ : _ ∧ k_ ≠ gb240))) (fun _ hk => hk.2) (.int .i64 t235)) (fun _ hk => hk.2) (.int .i64 t236)) (fun _ hk => hk.2) (.int .i64 t237)) (fun _ hk => hk.2) (.int .i64 t238)) (fun _ h_ => h_.1)))); (case side2 => exact (Kd.V_reads' HO223.out).2.1); (case side3 => refine (Kd.V_reads' (e := 29) (base := w.heap.size) (ok := fun k_ => (((k_ ≠ gb218 ∧ k_ ≠ gb232) ∧ k_ ≠ gb233) ∧ k_ ≠ gb240)) (n := t224.length) (c := co23) ?_).2.2; exact (by (with_reducible repeat (first | apply Kd.V_alloc | apply Kd.V_drewN | apply Kd.V_drew)); exact (Kd.V_mono (Kd.V_far (p := ⟨gb240, 3, none⟩) (Kd.V_far (p := ⟨gb240, 2, none⟩) (Kd.V_far (p := ⟨gb240, 1, none⟩) (Kd.V_far (p := ⟨gb240, 0, none⟩) (Kd.V_mono HO226.out (fun k_ hk => (⟨hk, hk.2⟩ : _ ∧ k_ ≠ gb240))) (fun _ hk => hk.2) (.int .i64 t235)) (fun _ hk => hk.2) (.int .i64 t236)) (fun _ hk => hk.2) (.int .i64 t237)) (fun _ hk => hk.2) (.int .i64 t238)) (fun _ h_ => h_.1)))); (case side4 => exact (Kd.V_reads' HO226.out).2.1); rintro e w34 ⟨rfl, hb⟩; refine ⟨_, rfl, ?_⟩; replace HO223 := Aside0.mk (Kd.V_below (by (with_reducible repeat (first | apply Kd.V_alloc | apply Kd.V_drewN | apply Kd.V_drew)); exact (Kd.V_mono (Kd.V_far (p := ⟨gb240, 3, none⟩) (Kd.V_far (p := ⟨gb240, 2, none⟩) (Kd.V_far (p := ⟨gb240, 1, none⟩) (Kd.V_far (p := ⟨gb240, 0, none⟩) (Kd.V_mono HO223.out (fun k_ hk => (⟨hk, hk.2⟩ : _ ∧ k_ ≠ gb240))) (fun _ hk => hk.2) (.int .i64 t235)) (fun _ hk => hk.2) (.int .i64 t236)) (fun _ hk => hk.2) (.int .i64 t237)) (fun _ hk => hk.2) (.int .i64 t238)) (fun _ h_ => h_.1))) hb); replace HO226 := Aside0.mk (Kd.V_below (by (with_reducible repeat (first | apply Kd.V_alloc | apply Kd.V_drewN | apply Kd.V_drew)); exact (Kd.V_mono (Kd.V_far (p := ⟨gb240, 3, none⟩) (Kd.V_far (p := ⟨gb240, 2, none⟩) (Kd.V_far (p := ⟨gb240, 1, none⟩) (Kd.V_far (p := ⟨gb240, 0, none⟩) (Kd.V_mono HO226.out (fun k_ hk => (⟨hk, hk.2⟩ : _ ∧ k_ ≠ gb240))) (fun _ hk => hk.2) (.int .i64 t235)) (fun _ hk => hk.2) (.int .i64 t236)) (fun _ hk => hk.2) (.int .i64 t237)) (fun _ hk => hk.2) (.int .i64 t238)) (fun _ h_ => h_.1))) hb); replace BK218 := Aside0.mk (blk_below (g := gb218) (o := .cells #[.slice A0_0 l0_0.length c0_0, .slice A0_1 l0_1.length c0_1] 25 (0, 0)) (by (with_reducible repeat (first | refine blk_drewN ?_ _ | refine blk_drew ?_ | refine blk_alloc ?_ _)); refine blk_far ?_ NB218_240.out _; (with_reducible repeat (first | refine blk_drewN ?_ _ | refine blk_drew ?_ | refine blk_alloc ?_ _)); refine blk_far ?_ NB218_240.out _; (with_reducible repeat (first | refine blk_drewN ?_ _ | refine blk_drew ?_ | refine blk_alloc ?_ _)); refine blk_far ?_ NB218_240.out _; (with_reducible repeat (first | refine blk_drewN ?_ _ | refine blk_drew ?_ | refine blk_alloc ?_ _)); refine blk_far ?_ NB218_240.out _; (with_reducible repeat (first | refine blk_drewN ?_ _ | refine blk_drew ?_ | refine blk_alloc ?_ _)); exact BK218.out) hb); replace BK232 := Aside0.mk (blk_below (g := gb232) (o := .cells #[.slice Ao19 t221.length co19, .slice Ao23 t224.length co23] 25 (0, 0)) (by (with_reducible repeat (first | refine blk_drewN ?_ _ | refine blk_drew ?_ | refine blk_alloc ?_ _)); refine blk_far ?_ NB232_240.out _; (with_reducible repeat (first | refine blk_drewN ?_ _ | refine blk_drew ?_ | refine blk_alloc ?_ _)); refine blk_far ?_ NB232_240.out _; (with_reducible repeat (first | refine blk_drewN ?_ _ | refine blk_drew ?_ | refine blk_alloc ?_ _)); refine blk_far ?_ NB232_240.out _; (with_reducible repeat (first | refine blk_drewN ?_ _ | refine blk_drew ?_ | refine blk_alloc ?_ _)); refine blk_far ?_ NB232_240.out _; (with_reducible repeat (first | refine blk_drewN ?_ _ | refine blk_drew ?_ | refine blk_alloc ?_ _)); exact BK232.out) hb); replace BK233 := Aside0.mk (blk_below (g := gb233) (o := .cells #[.int .i64 t227, .int .i64 t228, .int .i64 t229, .int .i64 t230] 29 (0, 0)) (by (with_reducible repeat (first | refine blk_drewN ?_ _ | refine blk_drew ?_ | refine blk_alloc ?_ _)); refine blk_far ?_ NB233_240.out _; (with_reducible repeat (first | refine blk_drewN ?_ _ | refine blk_drew ?_ | refine blk_alloc ?_ _)); refine blk_far ?_ NB233_240.out _; (with_reducible repeat (first | refine blk_drewN ?_ _ | refine blk_drew ?_ | refine blk_alloc ?_ _)); refine blk_far ?_ NB233_240.out _; (with_reducible repeat (first | refine blk_drewN ?_ _ | refine blk_drew ?_ | refine blk_alloc ?_ _)); refine blk_far ?_ NB233_240.out _; (with_reducible repeat (first | refine blk_drewN ?_ _ | refine blk_drew ?_ | refine blk_alloc ?_ _)); exact BK233.out) hb); replace BK240 := Aside0.mk (blk_below (g := gb240) (o := .cells #[.int .i64 t235, .int .i64 t236, .int .i64 t237, .int .i64 t238] 29 (0, 0)) (by (with_reducible repeat (first | refine blk_drewN ?_ _ | refine blk_drew ?_ | refine blk_alloc ?_ _)); refine blk_put (cs := #[.int .i64 t235, .int .i64 t236, .int .i64 t237, .int .i64 0]) ?_ 3 _ rfl; (with_reducible repeat (first | refine blk_drewN ?_ _ | refine blk_drew ?_ | refine blk_alloc ?_ _)); refine blk_put (cs := #[.int .i64 t235, .int .i64 t236, .int .i64 0, .int .i64 0]) ?_ 2 _ rfl; (with_reducible repeat (first | refine blk_drewN ?_ _ | refine blk_drew ?_ | refine blk_alloc ?_ _)); refine blk_put (cs := #[.int .i64 t235, .int .i64 0, .int .i64 0, .int .i64 0]) ?_ 1 _ rfl; (with_reducible repeat (first | refine blk_drewN ?_ _ | refine blk_drew ?_ | refine blk_alloc ?_ _)); refine blk_put (cs := #[.int .i64 0, .int .i64 0, .int .i64 0, .int .i64 0]) ?_ 0 _ rfl; (with_reducible repeat (first | refine blk_drewN ?_ _ | refine blk_drew ?_ | refine blk_alloc ?_ _)); exact BK240.out) hb); replace HB := Aside0.mk (below_step (by repeat (first | (with_reducible first | exact HB.out | apply bA | apply bN | apply bD | refine bS ?_ ‹_›) | exact HB.out)) hb); (try clear hb); (try clear hb2); (try clear hk); (try clear hi)) | ((with_reducible refine gate_dst (N := 12) rfl ?_); (try (refine gate_guard (by rfl) ?_; dsimp only)); refine box_event ?hg (N := 12) ?hd (cs := #[.int .i64 0, .int .i64 0, .int .i64 0, .int .i64 0]) (t := 29) ?hr ?_; (case hd => rfl); (case hg => rfl); (case hr => first | (go_simp; done) | (go_simp; rfl)); intro gb246 hg w35 hbox hb; have BK246 := Aside0.mk (hbox); have GW246 := Aside0.mk ((by rw [hg]; exact (below_size (by repeat (first | (with_reducible first | exact HB.out | apply bA | apply bN | apply bD | refine bS ?_ ‹_›) | exact HB.out))) : w.heap.size ≤ gb246)); have GE246 := GW246; have NB218_246 := nl BK218 hg; have NB246_218 := ng BK218 hg; have NB232_246 := nl BK232 hg; have NB246_232 := ng BK232 hg; have NB233_246 := nl BK233 hg; have NB246_233 := ng BK233 hg; have NB240_246 := nl BK240 hg; have NB246_240 := ng BK240 hg; replace HO223 := ve HO223 hg hb; replace HO226 := ve HO226 hg hb; replace BK218 := bb BK218 hb; replace BK232 := bb BK232 hb; replace BK233 := bb BK233 hb; replace BK240 := bb BK240 hb; replace HB := Aside0.mk (below_step (by repeat (first | (with_reducible first | exact HB.out | apply bA | apply bN | apply bD | refine bS ?_ ‹_›) | exact HB.out)) hb); clear hb hbox hg; have hnb36 := NB246_218.out; have hnc36 := NB218_246.out; have hnb37 := NB246_232.out; have hnc37 := NB232_246.out; have hnb38 := NB246_233.out; have hnc38 := NB233_246.out; have hnb39 := NB246_240.out; have hnc39 := NB240_246.out; have hcz40_0 : w35.cell? ⟨gb246, 0, none⟩ = some (.int .i64 0) := (blk_cell BK246.out 0).trans rfl; have hcz40_1 : w35.cell? ⟨gb246, 1, none⟩ = some (.int .i64 0) := (blk_cell BK246.out 1).trans rfl; have hcz40_2 : w35.cell? ⟨gb246, 2, none⟩ = some (.int .i64 0) := (blk_cell BK246.out 2).trans rfl; have hcz40_3 : w35.cell? ⟨gb246, 3, none⟩ = some (.int .i64 0) := (blk_cell BK246.out 3).trans rfl; have hfz40_0 := blk_frozen BK246.out 0; have hfz40_1 := blk_frozen BK246.out 1; have hfz40_2 := blk_frozen BK246.out 2; have hfz40_3 := blk_frozen BK246.out 3))
   (try simp only [Act.put, List.setIfInBounds_toArray, List.set_cons_zero, List.set_cons_succ])
   go_cut [88] (fun v88 wc => ∃ (kq : Nat) (x88_9 : Bool), v88 = .bool x88_9 ∧ Aside0 (interchangelaw13_PoolFresh.j0 kq true x88_9 l0_0 l0_1 t221 t224 = some r) ∧ Aside0 (kq ≤ k) ∧ Aside0 (Kd.V (Kd.int .i64) 3 wc w.heap.size (fun k_ => k_ ≠ gb218 ∧ k_ ≠ gb232 ∧ k_ ≠ gb233 ∧ k_ ≠ gb240 ∧ k_ ≠ gb246) (.slice Ao19 t221.length co19) t221) ∧ Aside0 (Kd.V k29 29 wc w.heap.size (fun k_ => k_ ≠ gb218 ∧ k_ ≠ gb232 ∧ k_ ≠ gb233 ∧ k_ ≠ gb240 ∧ k_ ≠ gb246) (.slice Ao23 t224.length co23) t224) ∧ Aside0 (wc.heap[gb218]? = some (.cells #[(.slice A0_0 l0_0.length c0_0), (.slice A0_1 l0_1.length c0_1)] 25 (0, 0))) ∧ Aside0 (wc.heap[gb232]? = some (.cells #[(.slice Ao19 t221.length co19), (.slice Ao23 t224.length co23)] 25 (0, 0))) ∧ Aside0 (wc.heap[gb233]? = some (.cells #[.int .i64 t227, .int .i64 t228, .int .i64 t229, .int .i64 t230] 29 (0, 0))) ∧ Aside0 (wc.heap[gb240]? = some (.cells #[.int .i64 t235, .int .i64 t236, .int .i64 t237, .int .i64 t238] 29 (0, 0))) ∧ Aside0 (wc.heap[gb246]? = some (.cells #[.int .i64 t241, .int .i64 t242, .int .i64 t243, .int .i64 t244] 29 (0, 0))) ∧ Aside0 (Below w.heap.size w wc))
   case first =>
    have H := HC10.out
    clear HC10
    by_cases c41 : t239 = true
    ·
     subst c41
     have H1 : (interchangelaw13_PoolFresh.j0 k true true l0_0 l0_1 t221 t224) = some r := by rw [if_pos rfl] at H; exact H
     clear H
     have H := H1
     clear H1
     have H' := Aside0.mk H
     clear H
     go_wp2
     go_meet
     case rel => exact ⟨_, (true), (by first | rfl | (simp; done) | (simp [*]; done)), H', ⟨by first | omega | exact Nat.le_refl _⟩, ⟨by (with_reducible repeat (first | apply Kd.V_alloc | apply Kd.V_drewN | apply Kd.V_drew)); exact Kd.V_mono (Kd.V_far (p := ⟨gb246, 3, none⟩) (Kd.V_far (p := ⟨gb246, 2, none⟩) (Kd.V_far (p := ⟨gb246, 1, none⟩) (Kd.V_far (p := ⟨gb246, 0, none⟩) (Kd.V_mono HO223.out (fun k_ hk => (⟨hk, hk.2⟩ : _ ∧ k_ ≠ gb246))) (fun _ hk => hk.2) (.int .i64 t241)) (fun _ hk => hk.2) (.int .i64 t242)) (fun _ hk => hk.2) (.int .i64 t243)) (fun _ hk => hk.2) (.int .i64 t244)) (fun _ hk => ⟨hk.1.1.1.1.1, ⟨hk.1.1.1.1.2, ⟨hk.1.1.1.2, ⟨hk.1.1.2, hk.1.2⟩⟩⟩⟩)⟩, ⟨by (with_reducible repeat (first | apply Kd.V_alloc | apply Kd.V_drewN | apply Kd.V_drew)); exact Kd.V_mono (Kd.V_far (p := ⟨gb246, 3, none⟩) (Kd.V_far (p := ⟨gb246, 2, none⟩) (Kd.V_far (p := ⟨gb246, 1, none⟩) (Kd.V_far (p := ⟨gb246, 0, none⟩) (Kd.V_mono HO226.out (fun k_ hk => (⟨hk, hk.2⟩ : _ ∧ k_ ≠ gb246))) (fun _ hk => hk.2) (.int .i64 t241)) (fun _ hk => hk.2) (.int .i64 t242)) (fun _ hk => hk.2) (.int .i64 t243)) (fun _ hk => hk.2) (.int .i64 t244)) (fun _ hk => ⟨hk.1.1.1.1.1, ⟨hk.1.1.1.1.2, ⟨hk.1.1.1.2, ⟨hk.1.1.2, hk.1.2⟩⟩⟩⟩)⟩, ⟨by (with_reducible repeat (first | refine blk_drewN ?_ _ | refine blk_drew ?_ | refine blk_alloc ?_ _)); refine blk_far ?_ NB218_246.out _; (with_reducible repeat (first | refine blk_drewN ?_ _ | refine blk_drew ?_ | refine blk_alloc ?_ _)); refine blk_far ?_ NB218_246.out _; (with_reducible repeat (first | refine blk_drewN ?_ _ | refine blk_drew ?_ | refine blk_alloc ?_ _)); refine blk_far ?_ NB218_246.out _; (with_reducible repeat (first | refine blk_drewN ?_ _ | refine blk_drew ?_ | refine blk_alloc ?_ _)); refine blk_far ?_ NB218_246.out _; (with_reducible repeat (first | refine blk_drewN ?_ _ | refine blk_drew ?_ | refine blk_alloc ?_ _)); exact BK218.out⟩, ⟨by (with_reducible repeat (first | refine blk_drewN ?_ _ | refine blk_drew ?_ | refine blk_alloc ?_ _)); refine blk_far ?_ NB232_246.out _; (with_reducible repeat (first | refine blk_drewN ?_ _ | refine blk_drew ?_ | refine blk_alloc ?_ _)); refine blk_far ?_ NB232_246.out _; (with_reducible repeat (first | refine blk_drewN ?_ _ | refine blk_drew ?_ | refine blk_alloc ?_ _)); refine blk_far ?_ NB232_246.out _; (with_reducible repeat (first | refine blk_drewN ?_ _ | refine blk_drew ?_ | refine blk_alloc ?_ _)); refine blk_far ?_ NB232_246.out _; (with_reducible repeat (first | refine blk_drewN ?_ _ | refine blk_drew ?_ | refine blk_alloc ?_ _)); exact BK232.out⟩, ⟨by (with_reducible repeat (first | refine blk_drewN ?_ _ | refine blk_drew ?_ | refine blk_alloc ?_ _)); refine blk_far ?_ NB233_246.out _; (with_reducible repeat (first | refine blk_drewN ?_ _ | refine blk_drew ?_ | refine blk_alloc ?_ _)); refine blk_far ?_ NB233_246.out _; (with_reducible repeat (first | refine blk_drewN ?_ _ | refine blk_drew ?_ | refine blk_alloc ?_ _)); refine blk_far ?_ NB233_246.out _; (with_reducible repeat (first | refine blk_drewN ?_ _ | refine blk_drew ?_ | refine blk_alloc ?_ _)); refine blk_far ?_ NB233_246.out _; (with_reducible repeat (first | refine blk_drewN ?_ _ | refine blk_drew ?_ | refine blk_alloc ?_ _)); exact BK233.out⟩, ⟨by (with_reducible repeat (first | refine blk_drewN ?_ _ | refine blk_drew ?_ | refine blk_alloc ?_ _)); refine blk_far ?_ NB240_246.out _; (with_reducible repeat (first | refine blk_drewN ?_ _ | refine blk_drew ?_ | refine blk_alloc ?_ _)); refine blk_far ?_ NB240_246.out _; (with_reducible repeat (first | refine blk_drewN ?_ _ | refine blk_drew ?_ | refine blk_alloc ?_ _)); refine blk_far ?_ NB240_246.out _; (with_reducible repeat (first | refine blk_drewN ?_ _ | refine blk_drew ?_ | refine blk_alloc ?_ _)); refine blk_far ?_ NB240_246.out _; (with_reducible repeat (first | refine blk_drewN ?_ _ | refine blk_drew ?_ | refine blk_alloc ?_ _)); exact BK240.out⟩, ⟨by (with_reducible repeat (first | refine blk_drewN ?_ _ | refine blk_drew ?_ | refine blk_alloc ?_ _)); refine blk_put (cs := #[.int .i64 t241, .int .i64 t242, .int .i64 t243, .int .i64 0]) ?_ 3 _ rfl; (with_reducible repeat (first | refine blk_drewN ?_ _ | refine blk_drew ?_ | refine blk_alloc ?_ _)); refine blk_put (cs := #[.int .i64 t241, .int .i64 t242, .int .i64 0, .int .i64 0]) ?_ 2 _ rfl; (with_reducible repeat (first | refine blk_drewN ?_ _ | refine blk_drew ?_ | refine blk_alloc ?_ _)); refine blk_put (cs := #[.int .i64 t241, .int .i64 0, .int .i64 0, .int .i64 0]) ?_ 1 _ rfl; (with_reducible repeat (first | refine blk_drewN ?_ _ | refine blk_drew ?_ | refine blk_alloc ?_ _)); refine blk_put (cs := #[.int .i64 0, .int .i64 0, .int .i64 0, .int .i64 0]) ?_ 0 _ rfl; (with_reducible repeat (first | refine blk_drewN ?_ _ | refine blk_drew ?_ | refine blk_alloc ?_ _)); exact BK246.out⟩, ⟨by repeat (first | (with_reducible first | exact HB.out | apply below_alloc | apply pw_below_drewN | apply below_drew1 | refine below_set ?_ GE218.out | refine below_set ?_ GE232.out | refine below_set ?_ GE233.out | refine below_set ?_ GE240.out | refine below_set ?_ GE246.out) | exact HB.out)⟩⟩
    ·
     replace c41 := Bool.eq_false_iff.mpr c41
     subst c41
     have H1 : (if t245 = true then (if (!(t241 == t227) || (!(t242 == t228) || (!(t243 == t229) || (!(t244 == t230))))) = true then (interchangelaw13_PoolFresh.j0 k true true l0_0 l0_1 t221 t224) else (if t230 = a1 then (if t229 = 1 then (interchangelaw13_PoolFresh.j0 k true ((t224.length : Int) != (wrap64 ((l0_1.length : Int) + 1))) l0_0 l0_1 t221 t224) else (interchangelaw13_PoolFresh.j0 k true true l0_0 l0_1 t221 t224)) else (interchangelaw13_PoolFresh.j0 k true true l0_0 l0_1 t221 t224))) else (interchangelaw13_PoolFresh.j0 k true true l0_0 l0_1 t221 t224)) = some r := by rw [if_neg (show ¬ (false = true) by decide)] at H; exact H
     clear H
     have H := H1
     clear H1
     by_cases c42 : t245 = true
     ·
      subst c42
      have H1 : (if (!(t241 == t227) || (!(t242 == t228) || (!(t243 == t229) || (!(t244 == t230))))) = true then (interchangelaw13_PoolFresh.j0 k true true l0_0 l0_1 t221 t224) else (if t230 = a1 then (if t229 = 1 then (interchangelaw13_PoolFresh.j0 k true ((t224.length : Int) != (wrap64 ((l0_1.length : Int) + 1))) l0_0 l0_1 t221 t224) else (interchangelaw13_PoolFresh.j0 k true true l0_0 l0_1 t221 t224)) else (interchangelaw13_PoolFresh.j0 k true true l0_0 l0_1 t221 t224))) = some r := by rw [if_pos rfl] at H; exact H
      clear H
      have H := H1
      clear H1
      by_cases c43 : (!(t241 == t227) || (!(t242 == t228) || (!(t243 == t229) || (!(t244 == t230))))) = true
      ·
       rw [if_pos c43] at H
       have c43b0 : (!(t241 == t227) || (!(t242 == t228) || (!(t243 == t229) || (!(t244 == t230))))) = true := c43
       clear c43
       (first | rw [c43b0] | (simp only [i64_w, i32_w]; rw [c43b0]) | skip)
       have H' := Aside0.mk H
       clear H
       have hnb44 := NB246_218.out
       have hnc44 := NB218_246.out
       have hnb45 := NB246_232.out
       have hnc45 := NB232_246.out
       have hnb46 := NB246_233.out
       have hnc46 := NB233_246.out
       have hnb47 := NB246_240.out
       have hnc47 := NB240_246.out
       have hcz48_0 : w35.cell? ⟨gb246, 0, none⟩ = some (.int .i64 0) := (blk_cell BK246.out 0).trans rfl
       have hcz48_1 : w35.cell? ⟨gb246, 1, none⟩ = some (.int .i64 0) := (blk_cell BK246.out 1).trans rfl
       have hcz48_2 : w35.cell? ⟨gb246, 2, none⟩ = some (.int .i64 0) := (blk_cell BK246.out 2).trans rfl
       have hcz48_3 : w35.cell? ⟨gb246, 3, none⟩ = some (.int .i64 0) := (blk_cell BK246.out 3).trans rfl
       have hfz48_0 := blk_frozen BK246.out 0
       have hfz48_1 := blk_frozen BK246.out 1
       have hfz48_2 := blk_frozen BK246.out 2
       have hfz48_3 := blk_frozen BK246.out 3
       have hnb49 := NB233_218.out
       have hnc49 := NB218_233.out
       have hnb50 := NB233_232.out
       have hnc50 := NB232_233.out
       have hnb51 := NB233_240.out
       have hnc51 := NB240_233.out
       have hcz52_0 : w35.cell? ⟨gb233, 0, none⟩ = some (.int .i64 t227) := (blk_cell BK233.out 0).trans rfl
       have hcz52_1 : w35.cell? ⟨gb233, 1, none⟩ = some (.int .i64 t228) := (blk_cell BK233.out 1).trans rfl
       have hcz52_2 : w35.cell? ⟨gb233, 2, none⟩ = some (.int .i64 t229) := (blk_cell BK233.out 2).trans rfl
       have hcz52_3 : w35.cell? ⟨gb233, 3, none⟩ = some (.int .i64 t230) := (blk_cell BK233.out 3).trans rfl
       have hfz52_0 := blk_frozen BK233.out 0
       have hfz52_1 := blk_frozen BK233.out 1
       have hfz52_2 := blk_frozen BK233.out 2
       have hfz52_3 := blk_frozen BK233.out 3
       go_wp2
       go_meet
       case rel => exact ⟨_, (true), (by first | rfl | (simp; done) | (simp [*]; done)), H', ⟨by first | omega | exact Nat.le_refl _⟩, ⟨by (with_reducible repeat (first | apply Kd.V_alloc | apply Kd.V_drewN | apply Kd.V_drew)); exact Kd.V_mono (Kd.V_far (p := ⟨gb246, 3, none⟩) (Kd.V_far (p := ⟨gb246, 2, none⟩) (Kd.V_far (p := ⟨gb246, 1, none⟩) (Kd.V_far (p := ⟨gb246, 0, none⟩) (Kd.V_mono HO223.out (fun k_ hk => (⟨hk, hk.2⟩ : _ ∧ k_ ≠ gb246))) (fun _ hk => hk.2) (.int .i64 t241)) (fun _ hk => hk.2) (.int .i64 t242)) (fun _ hk => hk.2) (.int .i64 t243)) (fun _ hk => hk.2) (.int .i64 t244)) (fun _ hk => ⟨hk.1.1.1.1.1, ⟨hk.1.1.1.1.2, ⟨hk.1.1.1.2, ⟨hk.1.1.2, hk.1.2⟩⟩⟩⟩)⟩, ⟨by (with_reducible repeat (first | apply Kd.V_alloc | apply Kd.V_drewN | apply Kd.V_drew)); exact Kd.V_mono (Kd.V_far (p := ⟨gb246, 3, none⟩) (Kd.V_far (p := ⟨gb246, 2, none⟩) (Kd.V_far (p := ⟨gb246, 1, none⟩) (Kd.V_far (p := ⟨gb246, 0, none⟩) (Kd.V_mono HO226.out (fun k_ hk => (⟨hk, hk.2⟩ : _ ∧ k_ ≠ gb246))) (fun _ hk => hk.2) (.int .i64 t241)) (fun _ hk => hk.2) (.int .i64 t242)) (fun _ hk => hk.2) (.int .i64 t243)) (fun _ hk => hk.2) (.int .i64 t244)) (fun _ hk => ⟨hk.1.1.1.1.1, ⟨hk.1.1.1.1.2, ⟨hk.1.1.1.2, ⟨hk.1.1.2, hk.1.2⟩⟩⟩⟩)⟩, ⟨by (with_reducible repeat (first | refine blk_drewN ?_ _ | refine blk_drew ?_ | refine blk_alloc ?_ _)); refine blk_far ?_ NB218_246.out _; (with_reducible repeat (first | refine blk_drewN ?_ _ | refine blk_drew ?_ | refine blk_alloc ?_ _)); refine blk_far ?_ NB218_246.out _; (with_reducible repeat (first | refine blk_drewN ?_ _ | refine blk_drew ?_ | refine blk_alloc ?_ _)); refine blk_far ?_ NB218_246.out _; (with_reducible repeat (first | refine blk_drewN ?_ _ | refine blk_drew ?_ | refine blk_alloc ?_ _)); refine blk_far ?_ NB218_246.out _; (with_reducible repeat (first | refine blk_drewN ?_ _ | refine blk_drew ?_ | refine blk_alloc ?_ _)); exact BK218.out⟩, ⟨by (with_reducible repeat (first | refine blk_drewN ?_ _ | refine blk_drew ?_ | refine blk_alloc ?_ _)); refine blk_far ?_ NB232_246.out _; (with_reducible repeat (first | refine blk_drewN ?_ _ | refine blk_drew ?_ | refine blk_alloc ?_ _)); refine blk_far ?_ NB232_246.out _; (with_reducible repeat (first | refine blk_drewN ?_ _ | refine blk_drew ?_ | refine blk_alloc ?_ _)); refine blk_far ?_ NB232_246.out _; (with_reducible repeat (first | refine blk_drewN ?_ _ | refine blk_drew ?_ | refine blk_alloc ?_ _)); refine blk_far ?_ NB232_246.out _; (with_reducible repeat (first | refine blk_drewN ?_ _ | refine blk_drew ?_ | refine blk_alloc ?_ _)); exact BK232.out⟩, ⟨by (with_reducible repeat (first | refine blk_drewN ?_ _ | refine blk_drew ?_ | refine blk_alloc ?_ _)); refine blk_far ?_ NB233_246.out _; (with_reducible repeat (first | refine blk_drewN ?_ _ | refine blk_drew ?_ | refine blk_alloc ?_ _)); refine blk_far ?_ NB233_246.out _; (with_reducible repeat (first | refine blk_drewN ?_ _ | refine blk_drew ?_ | refine blk_alloc ?_ _)); refine blk_far ?_ NB233_246.out _; (with_reducible repeat (first | refine blk_drewN ?_ _ | refine blk_drew ?_ | refine blk_alloc ?_ _)); refine blk_far ?_ NB233_246.out _; (with_reducible repeat (first | refine blk_drewN ?_ _ | refine blk_drew ?_ | refine blk_alloc ?_ _)); exact BK233.out⟩, ⟨by (with_reducible repeat (first | refine blk_drewN ?_ _ | refine blk_drew ?_ | refine blk_alloc ?_ _)); refine blk_far ?_ NB240_246.out _; (with_reducible repeat (first | refine blk_drewN ?_ _ | refine blk_drew ?_ | refine blk_alloc ?_ _)); refine blk_far ?_ NB240_246.out _; (with_reducible repeat (first | refine blk_drewN ?_ _ | refine blk_drew ?_ | refine blk_alloc ?_ _)); refine blk_far ?_ NB240_246.out _; (with_reducible repeat (first | refine blk_drewN ?_ _ | refine blk_drew ?_ | refine blk_alloc ?_ _)); refine blk_far ?_ NB240_246.out _; (with_reducible repeat (first | refine blk_drewN ?_ _ | refine blk_drew ?_ | refine blk_alloc ?_ _)); exact BK240.out⟩, ⟨by (with_reducible repeat (first | refine blk_drewN ?_ _ | refine blk_drew ?_ | refine blk_alloc ?_ _)); refine blk_put (cs := #[.int .i64 t241, .int .i64 t242, .int .i64 t243, .int .i64 0]) ?_ 3 _ rfl; (with_reducible repeat (first | refine blk_drewN ?_ _ | refine blk_drew ?_ | refine blk_alloc ?_ _)); refine blk_put (cs := #[.int .i64 t241, .int .i64 t242, .int .i64 0, .int .i64 0]) ?_ 2 _ rfl; (with_reducible repeat (first | refine blk_drewN ?_ _ | refine blk_drew ?_ | refine blk_alloc ?_ _)); refine blk_put (cs := #[.int .i64 t241, .int .i64 0, .int .i64 0, .int .i64 0]) ?_ 1 _ rfl; (with_reducible repeat (first | refine blk_drewN ?_ _ | refine blk_drew ?_ | refine blk_alloc ?_ _)); refine blk_put (cs := #[.int .i64 0, .int .i64 0, .int .i64 0, .int .i64 0]) ?_ 0 _ rfl; (with_reducible repeat (first | refine blk_drewN ?_ _ | refine blk_drew ?_ | refine blk_alloc ?_ _)); exact BK246.out⟩, ⟨by repeat (first | (with_reducible first | exact HB.out | apply below_alloc | apply pw_below_drewN | apply below_drew1 | refine below_set ?_ GE218.out | refine below_set ?_ GE232.out | refine below_set ?_ GE233.out | refine below_set ?_ GE240.out | refine below_set ?_ GE246.out) | exact HB.out)⟩⟩
      ·
       rw [if_neg c43] at H
       have c43b0 : (!(t241 == t227) || (!(t242 == t228) || (!(t243 == t229) || (!(t244 == t230))))) = false := by simpa using c43
       clear c43
       (first | rw [c43b0] | (simp only [i64_w, i32_w]; rw [c43b0]) | skip)
       by_cases c53 : t230 = a1
       ·
        rw [if_pos c53] at H
        have c53b0 : (t230 == a1) = true := beq_iff_eq.mpr c53
        have c53b1 : (t230 != a1) = false := bne_eq_false_iff_eq.mpr c53
        clear c53
        by_cases c54 : t229 = 1
        ·
         rw [if_pos c54] at H
         have c54b0 : (t229 == 1) = true := beq_iff_eq.mpr c54
         have c54b1 : (t229 != 1) = false := bne_eq_false_iff_eq.mpr c54
         clear c54
         have H' := Aside0.mk H
         clear H
         have hnb55 := NB246_218.out
         have hnc55 := NB218_246.out
         have hnb56 := NB246_232.out
         have hnc56 := NB232_246.out
         have hnb57 := NB246_233.out
         have hnc57 := NB233_246.out
         have hnb58 := NB246_240.out
         have hnc58 := NB240_246.out
         have hcz59_0 : w35.cell? ⟨gb246, 0, none⟩ = some (.int .i64 0) := (blk_cell BK246.out 0).trans rfl
         have hcz59_1 : w35.cell? ⟨gb246, 1, none⟩ = some (.int .i64 0) := (blk_cell BK246.out 1).trans rfl
         have hcz59_2 : w35.cell? ⟨gb246, 2, none⟩ = some (.int .i64 0) := (blk_cell BK246.out 2).trans rfl
         have hcz59_3 : w35.cell? ⟨gb246, 3, none⟩ = some (.int .i64 0) := (blk_cell BK246.out 3).trans rfl
         have hfz59_0 := blk_frozen BK246.out 0
         have hfz59_1 := blk_frozen BK246.out 1
         have hfz59_2 := blk_frozen BK246.out 2
         have hfz59_3 := blk_frozen BK246.out 3
         have hnb60 := NB233_218.out
         have hnc60 := NB218_233.out
         have hnb61 := NB233_232.out
         have hnc61 := NB232_233.out
         have hnb62 := NB233_240.out
         have hnc62 := NB240_233.out
         have hcz63_0 : w35.cell? ⟨gb233, 0, none⟩ = some (.int .i64 t227) := (blk_cell BK233.out 0).trans rfl
         have hcz63_1 : w35.cell? ⟨gb233, 1, none⟩ = some (.int .i64 t228) := (blk_cell BK233.out 1).trans rfl
         have hcz63_2 : w35.cell? ⟨gb233, 2, none⟩ = some (.int .i64 t229) := (blk_cell BK233.out 2).trans rfl
         have hcz63_3 : w35.cell? ⟨gb233, 3, none⟩ = some (.int .i64 t230) := (blk_cell BK233.out 3).trans rfl
         have hfz63_0 := blk_frozen BK233.out 0
         have hfz63_1 := blk_frozen BK233.out 1
         have hfz63_2 := blk_frozen BK233.out 2
         have hfz63_3 := blk_frozen BK233.out 3
         have hnb64 := NB232_218.out
         have hnc64 := NB218_232.out
         have hnb65 := NB232_240.out
         have hnc65 := NB240_232.out
         have hcz66_0 : w35.cell? ⟨gb232, 0, none⟩ = some (.slice Ao19 t221.length co19) := (blk_cell BK232.out 0).trans rfl
         have hcz66_1 : w35.cell? ⟨gb232, 1, none⟩ = some (.slice Ao23 t224.length co23) := (blk_cell BK232.out 1).trans rfl
         have hfz66_0 := blk_frozen BK232.out 0
         have hfz66_1 := blk_frozen BK232.out 1
         have hnb67 := NB218_240.out
         have hnc67 := NB240_218.out
         have hcz68_0 : w35.cell? ⟨gb218, 0, none⟩ = some (.slice A0_0 l0_0.length c0_0) := (blk_cell BK218.out 0).trans rfl
         have hcz68_1 : w35.cell? ⟨gb218, 1, none⟩ = some (.slice A0_1 l0_1.length c0_1) := (blk_cell BK218.out 1).trans rfl
         have hfz68_0 := blk_frozen BK218.out 0
         have hfz68_1 := blk_frozen BK218.out 1
         go_wp2
         go_meet
         case rel => exact ⟨_, (((t224.length : Int) != (wrap64 ((l0_1.length : Int) + 1)))), (by first | rfl | (simp; done) | (simp [*]; done)), H', ⟨by first | omega | exact Nat.le_refl _⟩, ⟨by (with_reducible repeat (first | apply Kd.V_alloc | apply Kd.V_drewN | apply Kd.V_drew)); exact Kd.V_mono (Kd.V_far (p := ⟨gb246, 3, none⟩) (Kd.V_far (p := ⟨gb246, 2, none⟩) (Kd.V_far (p := ⟨gb246, 1, none⟩) (Kd.V_far (p := ⟨gb246, 0, none⟩) (Kd.V_mono HO223.out (fun k_ hk => (⟨hk, hk.2⟩ : _ ∧ k_ ≠ gb246))) (fun _ hk => hk.2) (.int .i64 t241)) (fun _ hk => hk.2) (.int .i64 t242)) (fun _ hk => hk.2) (.int .i64 t243)) (fun _ hk => hk.2) (.int .i64 t244)) (fun _ hk => ⟨hk.1.1.1.1.1, ⟨hk.1.1.1.1.2, ⟨hk.1.1.1.2, ⟨hk.1.1.2, hk.1.2⟩⟩⟩⟩)⟩, ⟨by (with_reducible repeat (first | apply Kd.V_alloc | apply Kd.V_drewN | apply Kd.V_drew)); exact Kd.V_mono (Kd.V_far (p := ⟨gb246, 3, none⟩) (Kd.V_far (p := ⟨gb246, 2, none⟩) (Kd.V_far (p := ⟨gb246, 1, none⟩) (Kd.V_far (p := ⟨gb246, 0, none⟩) (Kd.V_mono HO226.out (fun k_ hk => (⟨hk, hk.2⟩ : _ ∧ k_ ≠ gb246))) (fun _ hk => hk.2) (.int .i64 t241)) (fun _ hk => hk.2) (.int .i64 t242)) (fun _ hk => hk.2) (.int .i64 t243)) (fun _ hk => hk.2) (.int .i64 t244)) (fun _ hk => ⟨hk.1.1.1.1.1, ⟨hk.1.1.1.1.2, ⟨hk.1.1.1.2, ⟨hk.1.1.2, hk.1.2⟩⟩⟩⟩)⟩, ⟨by (with_reducible repeat (first | refine blk_drewN ?_ _ | refine blk_drew ?_ | refine blk_alloc ?_ _)); refine blk_far ?_ NB218_246.out _; (with_reducible repeat (first | refine blk_drewN ?_ _ | refine blk_drew ?_ | refine blk_alloc ?_ _)); refine blk_far ?_ NB218_246.out _; (with_reducible repeat (first | refine blk_drewN ?_ _ | refine blk_drew ?_ | refine blk_alloc ?_ _)); refine blk_far ?_ NB218_246.out _; (with_reducible repeat (first | refine blk_drewN ?_ _ | refine blk_drew ?_ | refine blk_alloc ?_ _)); refine blk_far ?_ NB218_246.out _; (with_reducible repeat (first | refine blk_drewN ?_ _ | refine blk_drew ?_ | refine blk_alloc ?_ _)); exact BK218.out⟩, ⟨by (with_reducible repeat (first | refine blk_drewN ?_ _ | refine blk_drew ?_ | refine blk_alloc ?_ _)); refine blk_far ?_ NB232_246.out _; (with_reducible repeat (first | refine blk_drewN ?_ _ | refine blk_drew ?_ | refine blk_alloc ?_ _)); refine blk_far ?_ NB232_246.out _; (with_reducible repeat (first | refine blk_drewN ?_ _ | refine blk_drew ?_ | refine blk_alloc ?_ _)); refine blk_far ?_ NB232_246.out _; (with_reducible repeat (first | refine blk_drewN ?_ _ | refine blk_drew ?_ | refine blk_alloc ?_ _)); refine blk_far ?_ NB232_246.out _; (with_reducible repeat (first | refine blk_drewN ?_ _ | refine blk_drew ?_ | refine blk_alloc ?_ _)); exact BK232.out⟩, ⟨by (with_reducible repeat (first | refine blk_drewN ?_ _ | refine blk_drew ?_ | refine blk_alloc ?_ _)); refine blk_far ?_ NB233_246.out _; (with_reducible repeat (first | refine blk_drewN ?_ _ | refine blk_drew ?_ | refine blk_alloc ?_ _)); refine blk_far ?_ NB233_246.out _; (with_reducible repeat (first | refine blk_drewN ?_ _ | refine blk_drew ?_ | refine blk_alloc ?_ _)); refine blk_far ?_ NB233_246.out _; (with_reducible repeat (first | refine blk_drewN ?_ _ | refine blk_drew ?_ | refine blk_alloc ?_ _)); refine blk_far ?_ NB233_246.out _; (with_reducible repeat (first | refine blk_drewN ?_ _ | refine blk_drew ?_ | refine blk_alloc ?_ _)); exact BK233.out⟩, ⟨by (with_reducible repeat (first | refine blk_drewN ?_ _ | refine blk_drew ?_ | refine blk_alloc ?_ _)); refine blk_far ?_ NB240_246.out _; (with_reducible repeat (first | refine blk_drewN ?_ _ | refine blk_drew ?_ | refine blk_alloc ?_ _)); refine blk_far ?_ NB240_246.out _; (with_reducible repeat (first | refine blk_drewN ?_ _ | refine blk_drew ?_ | refine blk_alloc ?_ _)); refine blk_far ?_ NB240_246.out _; (with_reducible repeat (first | refine blk_drewN ?_ _ | refine blk_drew ?_ | refine blk_alloc ?_ _)); refine blk_far ?_ NB240_246.out _; (with_reducible repeat (first | refine blk_drewN ?_ _ | refine blk_drew ?_ | refine blk_alloc ?_ _)); exact BK240.out⟩, ⟨by (with_reducible repeat (first | refine blk_drewN ?_ _ | refine blk_drew ?_ | refine blk_alloc ?_ _)); refine blk_put (cs := #[.int .i64 t241, .int .i64 t242, .int .i64 t243, .int .i64 0]) ?_ 3 _ rfl; (with_reducible repeat (first | refine blk_drewN ?_ _ | refine blk_drew ?_ | refine blk_alloc ?_ _)); refine blk_put (cs := #[.int .i64 t241, .int .i64 t242, .int .i64 0, .int .i64 0]) ?_ 2 _ rfl; (with_reducible repeat (first | refine blk_drewN ?_ _ | refine blk_drew ?_ | refine blk_alloc ?_ _)); refine blk_put (cs := #[.int .i64 t241, .int .i64 0, .int .i64 0, .int .i64 0]) ?_ 1 _ rfl; (with_reducible repeat (first | refine blk_drewN ?_ _ | refine blk_drew ?_ | refine blk_alloc ?_ _)); refine blk_put (cs := #[.int .i64 0, .int .i64 0, .int .i64 0, .int .i64 0]) ?_ 0 _ rfl; (with_reducible repeat (first | refine blk_drewN ?_ _ | refine blk_drew ?_ | refine blk_alloc ?_ _)); exact BK246.out⟩, ⟨by repeat (first | (with_reducible first | exact HB.out | apply below_alloc | apply pw_below_drewN | apply below_drew1 | refine below_set ?_ GE218.out | refine below_set ?_ GE232.out | refine below_set ?_ GE233.out | refine below_set ?_ GE240.out | refine below_set ?_ GE246.out) | exact HB.out)⟩⟩
        ·
         rw [if_neg c54] at H
         have c54b0 : (t229 == 1) = false := beq_eq_false_iff_ne.mpr c54
         have c54b1 : (t229 != 1) = true := bne_iff_ne.mpr c54
         have H' := Aside0.mk H
         clear H
         have hnb69 := NB246_218.out
         have hnc69 := NB218_246.out
         have hnb70 := NB246_232.out
         have hnc70 := NB232_246.out
         have hnb71 := NB246_233.out
         have hnc71 := NB233_246.out
         have hnb72 := NB246_240.out
         have hnc72 := NB240_246.out
         have hcz73_0 : w35.cell? ⟨gb246, 0, none⟩ = some (.int .i64 0) := (blk_cell BK246.out 0).trans rfl
         have hcz73_1 : w35.cell? ⟨gb246, 1, none⟩ = some (.int .i64 0) := (blk_cell BK246.out 1).trans rfl
         have hcz73_2 : w35.cell? ⟨gb246, 2, none⟩ = some (.int .i64 0) := (blk_cell BK246.out 2).trans rfl
         have hcz73_3 : w35.cell? ⟨gb246, 3, none⟩ = some (.int .i64 0) := (blk_cell BK246.out 3).trans rfl
         have hfz73_0 := blk_frozen BK246.out 0
         have hfz73_1 := blk_frozen BK246.out 1
         have hfz73_2 := blk_frozen BK246.out 2
         have hfz73_3 := blk_frozen BK246.out 3
         have hnb74 := NB233_218.out
         have hnc74 := NB218_233.out
         have hnb75 := NB233_232.out
         have hnc75 := NB232_233.out
         have hnb76 := NB233_240.out
         have hnc76 := NB240_233.out
         have hcz77_0 : w35.cell? ⟨gb233, 0, none⟩ = some (.int .i64 t227) := (blk_cell BK233.out 0).trans rfl
         have hcz77_1 : w35.cell? ⟨gb233, 1, none⟩ = some (.int .i64 t228) := (blk_cell BK233.out 1).trans rfl
         have hcz77_2 : w35.cell? ⟨gb233, 2, none⟩ = some (.int .i64 t229) := (blk_cell BK233.out 2).trans rfl
         have hcz77_3 : w35.cell? ⟨gb233, 3, none⟩ = some (.int .i64 t230) := (blk_cell BK233.out 3).trans rfl
         have hfz77_0 := blk_frozen BK233.out 0
         have hfz77_1 := blk_frozen BK233.out 1
         have hfz77_2 := blk_frozen BK233.out 2
         have hfz77_3 := blk_frozen BK233.out 3
         go_wp2
         go_meet
         case rel => exact ⟨_, (true), (by first | rfl | (simp; done) | (simp [*]; done)), H', ⟨by first | omega | exact Nat.le_refl _⟩, ⟨by (with_reducible repeat (first | apply Kd.V_alloc | apply Kd.V_drewN | apply Kd.V_drew)); exact Kd.V_mono (Kd.V_far (p := ⟨gb246, 3, none⟩) (Kd.V_far (p := ⟨gb246, 2, none⟩) (Kd.V_far (p := ⟨gb246, 1, none⟩) (Kd.V_far (p := ⟨gb246, 0, none⟩) (Kd.V_mono HO223.out (fun k_ hk => (⟨hk, hk.2⟩ : _ ∧ k_ ≠ gb246))) (fun _ hk => hk.2) (.int .i64 t241)) (fun _ hk => hk.2) (.int .i64 t242)) (fun _ hk => hk.2) (.int .i64 t243)) (fun _ hk => hk.2) (.int .i64 t244)) (fun _ hk => ⟨hk.1.1.1.1.1, ⟨hk.1.1.1.1.2, ⟨hk.1.1.1.2, ⟨hk.1.1.2, hk.1.2⟩⟩⟩⟩)⟩, ⟨by (with_reducible repeat (first | apply Kd.V_alloc | apply Kd.V_drewN | apply Kd.V_drew)); exact Kd.V_mono (Kd.V_far (p := ⟨gb246, 3, none⟩) (Kd.V_far (p := ⟨gb246, 2, none⟩) (Kd.V_far (p := ⟨gb246, 1, none⟩) (Kd.V_far (p := ⟨gb246, 0, none⟩) (Kd.V_mono HO226.out (fun k_ hk => (⟨hk, hk.2⟩ : _ ∧ k_ ≠ gb246))) (fun _ hk => hk.2) (.int .i64 t241)) (fun _ hk => hk.2) (.int .i64 t242)) (fun _ hk => hk.2) (.int .i64 t243)) (fun _ hk => hk.2) (.int .i64 t244)) (fun _ hk => ⟨hk.1.1.1.1.1, ⟨hk.1.1.1.1.2, ⟨hk.1.1.1.2, ⟨hk.1.1.2, hk.1.2⟩⟩⟩⟩)⟩, ⟨by (with_reducible repeat (first | refine blk_drewN ?_ _ | refine blk_drew ?_ | refine blk_alloc ?_ _)); refine blk_far ?_ NB218_246.out _; (with_reducible repeat (first | refine blk_drewN ?_ _ | refine blk_drew ?_ | refine blk_alloc ?_ _)); refine blk_far ?_ NB218_246.out _; (with_reducible repeat (first | refine blk_drewN ?_ _ | refine blk_drew ?_ | refine blk_alloc ?_ _)); refine blk_far ?_ NB218_246.out _; (with_reducible repeat (first | refine blk_drewN ?_ _ | refine blk_drew ?_ | refine blk_alloc ?_ _)); refine blk_far ?_ NB218_246.out _; (with_reducible repeat (first | refine blk_drewN ?_ _ | refine blk_drew ?_ | refine blk_alloc ?_ _)); exact BK218.out⟩, ⟨by (with_reducible repeat (first | refine blk_drewN ?_ _ | refine blk_drew ?_ | refine blk_alloc ?_ _)); refine blk_far ?_ NB232_246.out _; (with_reducible repeat (first | refine blk_drewN ?_ _ | refine blk_drew ?_ | refine blk_alloc ?_ _)); refine blk_far ?_ NB232_246.out _; (with_reducible repeat (first | refine blk_drewN ?_ _ | refine blk_drew ?_ | refine blk_alloc ?_ _)); refine blk_far ?_ NB232_246.out _; (with_reducible repeat (first | refine blk_drewN ?_ _ | refine blk_drew ?_ | refine blk_alloc ?_ _)); refine blk_far ?_ NB232_246.out _; (with_reducible repeat (first | refine blk_drewN ?_ _ | refine blk_drew ?_ | refine blk_alloc ?_ _)); exact BK232.out⟩, ⟨by (with_reducible repeat (first | refine blk_drewN ?_ _ | refine blk_drew ?_ | refine blk_alloc ?_ _)); refine blk_far ?_ NB233_246.out _; (with_reducible repeat (first | refine blk_drewN ?_ _ | refine blk_drew ?_ | refine blk_alloc ?_ _)); refine blk_far ?_ NB233_246.out _; (with_reducible repeat (first | refine blk_drewN ?_ _ | refine blk_drew ?_ | refine blk_alloc ?_ _)); refine blk_far ?_ NB233_246.out _; (with_reducible repeat (first | refine blk_drewN ?_ _ | refine blk_drew ?_ | refine blk_alloc ?_ _)); refine blk_far ?_ NB233_246.out _; (with_reducible repeat (first | refine blk_drewN ?_ _ | refine blk_drew ?_ | refine blk_alloc ?_ _)); exact BK233.out⟩, ⟨by (with_reducible repeat (first | refine blk_drewN ?_ _ | refine blk_drew ?_ | refine blk_alloc ?_ _)); refine blk_far ?_ NB240_246.out _; (with_reducible repeat (first | refine blk_drewN ?_ _ | refine blk_drew ?_ | refine blk_alloc ?_ _)); refine blk_far ?_ NB240_246.out _; (with_reducible repeat (first | refine blk_drewN ?_ _ | refine blk_drew ?_ | refine blk_alloc ?_ _)); refine blk_far ?_ NB240_246.out _; (with_reducible repeat (first | refine blk_drewN ?_ _ | refine blk_drew ?_ | refine blk_alloc ?_ _)); refine blk_far ?_ NB240_246.out _; (with_reducible repeat (first | refine blk_drewN ?_ _ | refine blk_drew ?_ | refine blk_alloc ?_ _)); exact BK240.out⟩, ⟨by (with_reducible repeat (first | refine blk_drewN ?_ _ | refine blk_drew ?_ | refine blk_alloc ?_ _)); refine blk_put (cs := #[.int .i64 t241, .int .i64 t242, .int .i64 t243, .int .i64 0]) ?_ 3 _ rfl; (with_reducible repeat (first | refine blk_drewN ?_ _ | refine blk_drew ?_ | refine blk_alloc ?_ _)); refine blk_put (cs := #[.int .i64 t241, .int .i64 t242, .int .i64 0, .int .i64 0]) ?_ 2 _ rfl; (with_reducible repeat (first | refine blk_drewN ?_ _ | refine blk_drew ?_ | refine blk_alloc ?_ _)); refine blk_put (cs := #[.int .i64 t241, .int .i64 0, .int .i64 0, .int .i64 0]) ?_ 1 _ rfl; (with_reducible repeat (first | refine blk_drewN ?_ _ | refine blk_drew ?_ | refine blk_alloc ?_ _)); refine blk_put (cs := #[.int .i64 0, .int .i64 0, .int .i64 0, .int .i64 0]) ?_ 0 _ rfl; (with_reducible repeat (first | refine blk_drewN ?_ _ | refine blk_drew ?_ | refine blk_alloc ?_ _)); exact BK246.out⟩, ⟨by repeat (first | (with_reducible first | exact HB.out | apply below_alloc | apply pw_below_drewN | apply below_drew1 | refine below_set ?_ GE218.out | refine below_set ?_ GE232.out | refine below_set ?_ GE233.out | refine below_set ?_ GE240.out | refine below_set ?_ GE246.out) | exact HB.out)⟩⟩
       ·
        rw [if_neg c53] at H
        have c53b0 : (t230 == a1) = false := beq_eq_false_iff_ne.mpr c53
        have c53b1 : (t230 != a1) = true := bne_iff_ne.mpr c53
        have H' := Aside0.mk H
        clear H
        have hnb78 := NB246_218.out
        have hnc78 := NB218_246.out
        have hnb79 := NB246_232.out
        have hnc79 := NB232_246.out
        have hnb80 := NB246_233.out
        have hnc80 := NB233_246.out
        have hnb81 := NB246_240.out
        have hnc81 := NB240_246.out
        have hcz82_0 : w35.cell? ⟨gb246, 0, none⟩ = some (.int .i64 0) := (blk_cell BK246.out 0).trans rfl
        have hcz82_1 : w35.cell? ⟨gb246, 1, none⟩ = some (.int .i64 0) := (blk_cell BK246.out 1).trans rfl
        have hcz82_2 : w35.cell? ⟨gb246, 2, none⟩ = some (.int .i64 0) := (blk_cell BK246.out 2).trans rfl
        have hcz82_3 : w35.cell? ⟨gb246, 3, none⟩ = some (.int .i64 0) := (blk_cell BK246.out 3).trans rfl
        have hfz82_0 := blk_frozen BK246.out 0
        have hfz82_1 := blk_frozen BK246.out 1
        have hfz82_2 := blk_frozen BK246.out 2
        have hfz82_3 := blk_frozen BK246.out 3
        have hnb83 := NB233_218.out
        have hnc83 := NB218_233.out
        have hnb84 := NB233_232.out
        have hnc84 := NB232_233.out
        have hnb85 := NB233_240.out
        have hnc85 := NB240_233.out
        have hcz86_0 : w35.cell? ⟨gb233, 0, none⟩ = some (.int .i64 t227) := (blk_cell BK233.out 0).trans rfl
        have hcz86_1 : w35.cell? ⟨gb233, 1, none⟩ = some (.int .i64 t228) := (blk_cell BK233.out 1).trans rfl
        have hcz86_2 : w35.cell? ⟨gb233, 2, none⟩ = some (.int .i64 t229) := (blk_cell BK233.out 2).trans rfl
        have hcz86_3 : w35.cell? ⟨gb233, 3, none⟩ = some (.int .i64 t230) := (blk_cell BK233.out 3).trans rfl
        have hfz86_0 := blk_frozen BK233.out 0
        have hfz86_1 := blk_frozen BK233.out 1
        have hfz86_2 := blk_frozen BK233.out 2
        have hfz86_3 := blk_frozen BK233.out 3
        go_wp2
        go_meet
        case rel => exact ⟨_, (true), (by first | rfl | (simp; done) | (simp [*]; done)), H', ⟨by first | omega | exact Nat.le_refl _⟩, ⟨by (with_reducible repeat (first | apply Kd.V_alloc | apply Kd.V_drewN | apply Kd.V_drew)); exact Kd.V_mono (Kd.V_far (p := ⟨gb246, 3, none⟩) (Kd.V_far (p := ⟨gb246, 2, none⟩) (Kd.V_far (p := ⟨gb246, 1, none⟩) (Kd.V_far (p := ⟨gb246, 0, none⟩) (Kd.V_mono HO223.out (fun k_ hk => (⟨hk, hk.2⟩ : _ ∧ k_ ≠ gb246))) (fun _ hk => hk.2) (.int .i64 t241)) (fun _ hk => hk.2) (.int .i64 t242)) (fun _ hk => hk.2) (.int .i64 t243)) (fun _ hk => hk.2) (.int .i64 t244)) (fun _ hk => ⟨hk.1.1.1.1.1, ⟨hk.1.1.1.1.2, ⟨hk.1.1.1.2, ⟨hk.1.1.2, hk.1.2⟩⟩⟩⟩)⟩, ⟨by (with_reducible repeat (first | apply Kd.V_alloc | apply Kd.V_drewN | apply Kd.V_drew)); exact Kd.V_mono (Kd.V_far (p := ⟨gb246, 3, none⟩) (Kd.V_far (p := ⟨gb246, 2, none⟩) (Kd.V_far (p := ⟨gb246, 1, none⟩) (Kd.V_far (p := ⟨gb246, 0, none⟩) (Kd.V_mono HO226.out (fun k_ hk => (⟨hk, hk.2⟩ : _ ∧ k_ ≠ gb246))) (fun _ hk => hk.2) (.int .i64 t241)) (fun _ hk => hk.2) (.int .i64 t242)) (fun _ hk => hk.2) (.int .i64 t243)) (fun _ hk => hk.2) (.int .i64 t244)) (fun _ hk => ⟨hk.1.1.1.1.1, ⟨hk.1.1.1.1.2, ⟨hk.1.1.1.2, ⟨hk.1.1.2, hk.1.2⟩⟩⟩⟩)⟩, ⟨by (with_reducible repeat (first | refine blk_drewN ?_ _ | refine blk_drew ?_ | refine blk_alloc ?_ _)); refine blk_far ?_ NB218_246.out _; (with_reducible repeat (first | refine blk_drewN ?_ _ | refine blk_drew ?_ | refine blk_alloc ?_ _)); refine blk_far ?_ NB218_246.out _; (with_reducible repeat (first | refine blk_drewN ?_ _ | refine blk_drew ?_ | refine blk_alloc ?_ _)); refine blk_far ?_ NB218_246.out _; (with_reducible repeat (first | refine blk_drewN ?_ _ | refine blk_drew ?_ | refine blk_alloc ?_ _)); refine blk_far ?_ NB218_246.out _; (with_reducible repeat (first | refine blk_drewN ?_ _ | refine blk_drew ?_ | refine blk_alloc ?_ _)); exact BK218.out⟩, ⟨by (with_reducible repeat (first | refine blk_drewN ?_ _ | refine blk_drew ?_ | refine blk_alloc ?_ _)); refine blk_far ?_ NB232_246.out _; (with_reducible repeat (first | refine blk_drewN ?_ _ | refine blk_drew ?_ | refine blk_alloc ?_ _)); refine blk_far ?_ NB232_246.out _; (with_reducible repeat (first | refine blk_drewN ?_ _ | refine blk_drew ?_ | refine blk_alloc ?_ _)); refine blk_far ?_ NB232_246.out _; (with_reducible repeat (first | refine blk_drewN ?_ _ | refine blk_drew ?_ | refine blk_alloc ?_ _)); refine blk_far ?_ NB232_246.out _; (with_reducible repeat (first | refine blk_drewN ?_ _ | refine blk_drew ?_ | refine blk_alloc ?_ _)); exact BK232.out⟩, ⟨by (with_reducible repeat (first | refine blk_drewN ?_ _ | refine blk_drew ?_ | refine blk_alloc ?_ _)); refine blk_far ?_ NB233_246.out _; (with_reducible repeat (first | refine blk_drewN ?_ _ | refine blk_drew ?_ | refine blk_alloc ?_ _)); refine blk_far ?_ NB233_246.out _; (with_reducible repeat (first | refine blk_drewN ?_ _ | refine blk_drew ?_ | refine blk_alloc ?_ _)); refine blk_far ?_ NB233_246.out _; (with_reducible repeat (first | refine blk_drewN ?_ _ | refine blk_drew ?_ | refine blk_alloc ?_ _)); refine blk_far ?_ NB233_246.out _; (with_reducible repeat (first | refine blk_drewN ?_ _ | refine blk_drew ?_ | refine blk_alloc ?_ _)); exact BK233.out⟩, ⟨by (with_reducible repeat (first | refine blk_drewN ?_ _ | refine blk_drew ?_ | refine blk_alloc ?_ _)); refine blk_far ?_ NB240_246.out _; (with_reducible repeat (first | refine blk_drewN ?_ _ | refine blk_drew ?_ | refine blk_alloc ?_ _)); refine blk_far ?_ NB240_246.out _; (with_reducible repeat (first | refine blk_drewN ?_ _ | refine blk_drew ?_ | refine blk_alloc ?_ _)); refine blk_far ?_ NB240_246.out _; (with_reducible repeat (first | refine blk_drewN ?_ _ | refine blk_drew ?_ | refine blk_alloc ?_ _)); refine blk_far ?_ NB240_246.out _; (with_reducible repeat (first | refine blk_drewN ?_ _ | refine blk_drew ?_ | refine blk_alloc ?_ _)); exact BK240.out⟩, ⟨by (with_reducible repeat (first | refine blk_drewN ?_ _ | refine blk_drew ?_ | refine blk_alloc ?_ _)); refine blk_put (cs := #[.int .i64 t241, .int .i64 t242, .int .i64 t243, .int .i64 0]) ?_ 3 _ rfl; (with_reducible repeat (first | refine blk_drewN ?_ _ | refine blk_drew ?_ | refine blk_alloc ?_ _)); refine blk_put (cs := #[.int .i64 t241, .int .i64 t242, .int .i64 0, .int .i64 0]) ?_ 2 _ rfl; (with_reducible repeat (first | refine blk_drewN ?_ _ | refine blk_drew ?_ | refine blk_alloc ?_ _)); refine blk_put (cs := #[.int .i64 t241, .int .i64 0, .int .i64 0, .int .i64 0]) ?_ 1 _ rfl; (with_reducible repeat (first | refine blk_drewN ?_ _ | refine blk_drew ?_ | refine blk_alloc ?_ _)); refine blk_put (cs := #[.int .i64 0, .int .i64 0, .int .i64 0, .int .i64 0]) ?_ 0 _ rfl; (with_reducible repeat (first | refine blk_drewN ?_ _ | refine blk_drew ?_ | refine blk_alloc ?_ _)); exact BK246.out⟩, ⟨by repeat (first | (with_reducible first | exact HB.out | apply below_alloc | apply pw_below_drewN | apply below_drew1 | refine below_set ?_ GE218.out | refine below_set ?_ GE232.out | refine below_set ?_ GE233.out | refine below_set ?_ GE240.out | refine below_set ?_ GE246.out) | exact HB.out)⟩⟩
     ·
      replace c42 := Bool.eq_false_iff.mpr c42
      subst c42
      have H1 : (interchangelaw13_PoolFresh.j0 k true true l0_0 l0_1 t221 t224) = some r := by rw [if_neg (show ¬ (false = true) by decide)] at H; exact H
      clear H
      have H := H1
      clear H1
      have H' := Aside0.mk H
      clear H
      go_wp2
      go_meet
      case rel => exact ⟨_, (true), (by first | rfl | (simp; done) | (simp [*]; done)), H', ⟨by first | omega | exact Nat.le_refl _⟩, ⟨by (with_reducible repeat (first | apply Kd.V_alloc | apply Kd.V_drewN | apply Kd.V_drew)); exact Kd.V_mono (Kd.V_far (p := ⟨gb246, 3, none⟩) (Kd.V_far (p := ⟨gb246, 2, none⟩) (Kd.V_far (p := ⟨gb246, 1, none⟩) (Kd.V_far (p := ⟨gb246, 0, none⟩) (Kd.V_mono HO223.out (fun k_ hk => (⟨hk, hk.2⟩ : _ ∧ k_ ≠ gb246))) (fun _ hk => hk.2) (.int .i64 t241)) (fun _ hk => hk.2) (.int .i64 t242)) (fun _ hk => hk.2) (.int .i64 t243)) (fun _ hk => hk.2) (.int .i64 t244)) (fun _ hk => ⟨hk.1.1.1.1.1, ⟨hk.1.1.1.1.2, ⟨hk.1.1.1.2, ⟨hk.1.1.2, hk.1.2⟩⟩⟩⟩)⟩, ⟨by (with_reducible repeat (first | apply Kd.V_alloc | apply Kd.V_drewN | apply Kd.V_drew)); exact Kd.V_mono (Kd.V_far (p := ⟨gb246, 3, none⟩) (Kd.V_far (p := ⟨gb246, 2, none⟩) (Kd.V_far (p := ⟨gb246, 1, none⟩) (Kd.V_far (p := ⟨gb246, 0, none⟩) (Kd.V_mono HO226.out (fun k_ hk => (⟨hk, hk.2⟩ : _ ∧ k_ ≠ gb246))) (fun _ hk => hk.2) (.int .i64 t241)) (fun _ hk => hk.2) (.int .i64 t242)) (fun _ hk => hk.2) (.int .i64 t243)) (fun _ hk => hk.2) (.int .i64 t244)) (fun _ hk => ⟨hk.1.1.1.1.1, ⟨hk.1.1.1.1.2, ⟨hk.1.1.1.2, ⟨hk.1.1.2, hk.1.2⟩⟩⟩⟩)⟩, ⟨by (with_reducible repeat (first | refine blk_drewN ?_ _ | refine blk_drew ?_ | refine blk_alloc ?_ _)); refine blk_far ?_ NB218_246.out _; (with_reducible repeat (first | refine blk_drewN ?_ _ | refine blk_drew ?_ | refine blk_alloc ?_ _)); refine blk_far ?_ NB218_246.out _; (with_reducible repeat (first | refine blk_drewN ?_ _ | refine blk_drew ?_ | refine blk_alloc ?_ _)); refine blk_far ?_ NB218_246.out _; (with_reducible repeat (first | refine blk_drewN ?_ _ | refine blk_drew ?_ | refine blk_alloc ?_ _)); refine blk_far ?_ NB218_246.out _; (with_reducible repeat (first | refine blk_drewN ?_ _ | refine blk_drew ?_ | refine blk_alloc ?_ _)); exact BK218.out⟩, ⟨by (with_reducible repeat (first | refine blk_drewN ?_ _ | refine blk_drew ?_ | refine blk_alloc ?_ _)); refine blk_far ?_ NB232_246.out _; (with_reducible repeat (first | refine blk_drewN ?_ _ | refine blk_drew ?_ | refine blk_alloc ?_ _)); refine blk_far ?_ NB232_246.out _; (with_reducible repeat (first | refine blk_drewN ?_ _ | refine blk_drew ?_ | refine blk_alloc ?_ _)); refine blk_far ?_ NB232_246.out _; (with_reducible repeat (first | refine blk_drewN ?_ _ | refine blk_drew ?_ | refine blk_alloc ?_ _)); refine blk_far ?_ NB232_246.out _; (with_reducible repeat (first | refine blk_drewN ?_ _ | refine blk_drew ?_ | refine blk_alloc ?_ _)); exact BK232.out⟩, ⟨by (with_reducible repeat (first | refine blk_drewN ?_ _ | refine blk_drew ?_ | refine blk_alloc ?_ _)); refine blk_far ?_ NB233_246.out _; (with_reducible repeat (first | refine blk_drewN ?_ _ | refine blk_drew ?_ | refine blk_alloc ?_ _)); refine blk_far ?_ NB233_246.out _; (with_reducible repeat (first | refine blk_drewN ?_ _ | refine blk_drew ?_ | refine blk_alloc ?_ _)); refine blk_far ?_ NB233_246.out _; (with_reducible repeat (first | refine blk_drewN ?_ _ | refine blk_drew ?_ | refine blk_alloc ?_ _)); refine blk_far ?_ NB233_246.out _; (with_reducible repeat (first | refine blk_drewN ?_ _ | refine blk_drew ?_ | refine blk_alloc ?_ _)); exact BK233.out⟩, ⟨by (with_reducible repeat (first | refine blk_drewN ?_ _ | refine blk_drew ?_ | refine blk_alloc ?_ _)); refine blk_far ?_ NB240_246.out _; (with_reducible repeat (first | refine blk_drewN ?_ _ | refine blk_drew ?_ | refine blk_alloc ?_ _)); refine blk_far ?_ NB240_246.out _; (with_reducible repeat (first | refine blk_drewN ?_ _ | refine blk_drew ?_ | refine blk_alloc ?_ _)); refine blk_far ?_ NB240_246.out _; (with_reducible repeat (first | refine blk_drewN ?_ _ | refine blk_drew ?_ | refine blk_alloc ?_ _)); refine blk_far ?_ NB240_246.out _; (with_reducible repeat (first | refine blk_drewN ?_ _ | refine blk_drew ?_ | refine blk_alloc ?_ _)); exact BK240.out⟩, ⟨by (with_reducible repeat (first | refine blk_drewN ?_ _ | refine blk_drew ?_ | refine blk_alloc ?_ _)); refine blk_put (cs := #[.int .i64 t241, .int .i64 t242, .int .i64 t243, .int .i64 0]) ?_ 3 _ rfl; (with_reducible repeat (first | refine blk_drewN ?_ _ | refine blk_drew ?_ | refine blk_alloc ?_ _)); refine blk_put (cs := #[.int .i64 t241, .int .i64 t242, .int .i64 0, .int .i64 0]) ?_ 2 _ rfl; (with_reducible repeat (first | refine blk_drewN ?_ _ | refine blk_drew ?_ | refine blk_alloc ?_ _)); refine blk_put (cs := #[.int .i64 t241, .int .i64 0, .int .i64 0, .int .i64 0]) ?_ 1 _ rfl; (with_reducible repeat (first | refine blk_drewN ?_ _ | refine blk_drew ?_ | refine blk_alloc ?_ _)); refine blk_put (cs := #[.int .i64 0, .int .i64 0, .int .i64 0, .int .i64 0]) ?_ 0 _ rfl; (with_reducible repeat (first | refine blk_drewN ?_ _ | refine blk_drew ?_ | refine blk_alloc ?_ _)); exact BK246.out⟩, ⟨by repeat (first | (with_reducible first | exact HB.out | apply below_alloc | apply pw_below_drewN | apply below_drew1 | refine below_set ?_ GE218.out | refine below_set ?_ GE232.out | refine below_set ?_ GE233.out | refine below_set ?_ GE240.out | refine below_set ?_ GE246.out) | exact HB.out)⟩⟩
   case rest =>
    clear HC10
    try clear c1
    try clear c2
    try clear p2
    try clear c3
    try clear c4
    try clear c5
    try clear c6
    try clear p6
    try clear c7
    try clear c7b0
    try clear c7b1
    try clear c8
    try clear c10
    try clear c11
    try clear c12
    try clear c14
    try clear c16
    try clear c20
    try clear c21
    try clear c24
    try clear c29
    try clear c30
    try clear c31
    try clear c36
    try clear c37
    try clear c38
    try clear c39
    try clear c41
    try clear c42
    try clear c43
    try clear c43b0
    try clear c44
    try clear c45
    try clear c46
    try clear c47
    try clear c49
    try clear c50
    try clear c51
    try clear c53
    try clear c53b0
    try clear c53b1
    try clear c54
    try clear c54b0
    try clear c54b1
    try clear c55
    try clear c56
    try clear c57
    try clear c58
    try clear c60
    try clear c61
    try clear c62
    try clear c64
    try clear p64
    try clear c65
    try clear c67
    try clear c69
    try clear c70
    try clear c71
    try clear c72
    try clear c74
    try clear c75
    try clear c76
    try clear c78
    try clear c79
    try clear c80
    try clear c81
    try clear c83
    try clear c84
    try clear c85
    try clear hcz13_0
    try clear hcz13_1
    try clear hcz15_0
    try clear hcz15_1
    try clear hcz22_0
    try clear hcz22_1
    try clear hcz25_0
    try clear hcz25_1
    try clear hcz25_2
    try clear hcz25_3
    try clear hcz26_0
    try clear hcz26_1
    try clear hcz32_0
    try clear hcz32_1
    try clear hcz32_2
    try clear hcz32_3
    try clear hcz33_0
    try clear hcz33_1
    try clear hcz40_0
    try clear hcz40_1
    try clear hcz40_2
    try clear hcz40_3
    try clear hcz48_0
    try clear hcz48_1
    try clear hcz48_2
    try clear hcz48_3
    try clear hcz52_0
    try clear hcz52_1
    try clear hcz52_2
    try clear hcz52_3
    try clear hcz59_0
    try clear hcz59_1
    try clear hcz59_2
    try clear hcz59_3
    try clear hcz63_0
    try clear hcz63_1
    try clear hcz63_2
    try clear hcz63_3
    try clear hcz66_0
    try clear hcz66_1
    try clear hcz68_0
    try clear hcz68_1
    try clear hcz73_0
    try clear hcz73_1
    try clear hcz73_2
    try clear hcz73_3
    try clear hcz77_0
    try clear hcz77_1
    try clear hcz77_2
    try clear hcz77_3
    try clear hcz82_0
    try clear hcz82_1
    try clear hcz82_2
    try clear hcz82_3
    try clear hcz86_0
    try clear hcz86_1
    try clear hcz86_2
    try clear hcz86_3
    try clear hfz13_0
    try clear hfz13_1
    try clear hfz15_0
    try clear hfz15_1
    try clear hfz22_0
    try clear hfz22_1
    try clear hfz25_0
    try clear hfz25_1
    try clear hfz25_2
    try clear hfz25_3
    try clear hfz26_0
    try clear hfz26_1
    try clear hfz32_0
    try clear hfz32_1
    try clear hfz32_2
    try clear hfz32_3
    try clear hfz33_0
    try clear hfz33_1
    try clear hfz40_0
    try clear hfz40_1
    try clear hfz40_2
    try clear hfz40_3
    try clear hfz48_0
    try clear hfz48_1
    try clear hfz48_2
    try clear hfz48_3
    try clear hfz52_0
    try clear hfz52_1
    try clear hfz52_2
    try clear hfz52_3
    try clear hfz59_0
    try clear hfz59_1
    try clear hfz59_2
    try clear hfz59_3
    try clear hfz63_0
    try clear hfz63_1
    try clear hfz63_2
    try clear hfz63_3
    try clear hfz66_0
    try clear hfz66_1
    try clear hfz68_0
    try clear hfz68_1
    try clear hfz73_0
    try clear hfz73_1
    try clear hfz73_2
    try clear hfz73_3
    try clear hfz77_0
    try clear hfz77_1
    try clear hfz77_2
    try clear hfz77_3
    try clear hfz82_0
    try clear hfz82_1
    try clear hfz82_2
    try clear hfz82_3
    try clear hfz86_0
    try clear hfz86_1
    try clear hfz86_2
    try clear hfz86_3
    obtain ⟨kq, x88_9, rfl, HA, HJ9, HO_233000, HO_233001, BK218, BK232, BK233, BK240, BK246, HB⟩ := hcut
    cases kq with
    | zero => exact absurd HA.out (by simp [interchangelaw13_PoolFresh.j0])
    | succ kj9 =>
     have H := HA.out
     clear HA
     simp only [interchangelaw13_PoolFresh.j0] at H
     by_cases c87 : x88_9 = true
     ·
      subst c87
      have H1 : (some false) = some r := by rw [if_pos rfl] at H; exact H
      clear H
      have H := H1
      clear H1
      exact absurd ((Option.some.inj H).trans hT_.out) (by decide)
     ·
      replace c87 := Bool.eq_false_iff.mpr c87
      subst c87
      have H1 : (interchangelaw13_PoolFresh.l0 kj9 true 0 l0_0 l0_1 t221 t224) = some r := by rw [if_neg (show ¬ (false = true) by decide)] at H; exact H
      clear H
      have H := H1
      clear H1
      have H' := Aside0.mk H
      clear H
      go_wp2
      go_loopg [14] kj9 (fun kq v14 w' => ∃ (x14_2 : Int), v14 = .int .i64 x14_2 ∧ Aside0 (interchangelaw13_PoolFresh.l0 kq true x14_2 l0_0 l0_1 t221 t224 = some r) ∧ Aside0 (kq ≤ kj9) ∧ Aside0 (Kd.V (Kd.int .i64) 3 w' w.heap.size (fun k_ => k_ ≠ gb218 ∧ k_ ≠ gb232 ∧ k_ ≠ gb233 ∧ k_ ≠ gb240 ∧ k_ ≠ gb246) (.slice Ao19 t221.length co19) t221) ∧ Aside0 (Kd.V k29 29 w' w.heap.size (fun k_ => k_ ≠ gb218 ∧ k_ ≠ gb232 ∧ k_ ≠ gb233 ∧ k_ ≠ gb240 ∧ k_ ≠ gb246) (.slice Ao23 t224.length co23) t224) ∧ Aside0 (w'.heap[gb218]? = some (.cells #[(.slice A0_0 l0_0.length c0_0), (.slice A0_1 l0_1.length c0_1)] 25 (0, 0))) ∧ Aside0 (w'.heap[gb232]? = some (.cells #[(.slice Ao19 t221.length co19), (.slice Ao23 t224.length co23)] 25 (0, 0))) ∧ Aside0 (w'.heap[gb233]? = some (.cells #[.int .i64 t227, .int .i64 t228, .int .i64 t229, .int .i64 t230] 29 (0, 0))) ∧ Aside0 (w'.heap[gb240]? = some (.cells #[.int .i64 t235, .int .i64 t236, .int .i64 t237, .int .i64 t238] 29 (0, 0))) ∧ Aside0 (w'.heap[gb246]? = some (.cells #[.int .i64 t241, .int .i64 t242, .int .i64 t243, .int .i64 t244] 29 (0, 0))) ∧ Aside0 (Below w.heap.size w w'))
      case atStart => exact ⟨(0), (by first | rfl | (simp; done) | (simp [*]; done)), H', ⟨Nat.le_refl _⟩, ⟨by (with_reducible repeat (first | apply Kd.V_alloc | apply Kd.V_drewN | apply Kd.V_drew)); exact HO_233000.out⟩, ⟨by (with_reducible repeat (first | apply Kd.V_alloc | apply Kd.V_drewN | apply Kd.V_drew)); exact HO_233001.out⟩, ⟨by (with_reducible repeat (first | refine blk_drewN ?_ _ | refine blk_drew ?_ | refine blk_alloc ?_ _)); exact BK218.out⟩, ⟨by (with_reducible repeat (first | refine blk_drewN ?_ _ | refine blk_drew ?_ | refine blk_alloc ?_ _)); exact BK232.out⟩, ⟨by (with_reducible repeat (first | refine blk_drewN ?_ _ | refine blk_drew ?_ | refine blk_alloc ?_ _)); exact BK233.out⟩, ⟨by (with_reducible repeat (first | refine blk_drewN ?_ _ | refine blk_drew ?_ | refine blk_alloc ?_ _)); exact BK240.out⟩, ⟨by (with_reducible repeat (first | refine blk_drewN ?_ _ | refine blk_drew ?_ | refine blk_alloc ?_ _)); exact BK246.out⟩, ⟨by repeat (first | (with_reducible first | exact HB.out | apply below_alloc | apply pw_below_drewN | apply below_drew1 | refine below_set ?_ GE218.out | refine below_set ?_ GE232.out | refine below_set ?_ GE233.out | refine below_set ?_ GE240.out | refine below_set ?_ GE246.out) | exact HB.out)⟩⟩
      case round =>
       clear H'
       try clear c1
       try clear c2
       try clear p2
       try clear c3
       try clear c4
       try clear c5
       try clear c6
       try clear p6
       try clear c7
       try clear c7b0
       try clear c7b1
       try clear c8
       try clear c10
       try clear c11
       try clear c12
       try clear c14
       try clear c16
       try clear c20
       try clear c21
       try clear c24
       try clear c29
       try clear c30
       try clear c31
       try clear c36
       try clear c37
       try clear c38
       try clear c39
       try clear c41
       try clear c42
       try clear c43
       try clear c43b0
       try clear c44
       try clear c45
       try clear c46
       try clear c47
       try clear c49
       try clear c50
       try clear c51
       try clear c53
       try clear c53b0
       try clear c53b1
       try clear c54
       try clear c54b0
       try clear c54b1
       try clear c55
       try clear c56
       try clear c57
       try clear c58
       try clear c60
       try clear c61
       try clear c62
       try clear c64
       try clear p64
       try clear c65
       try clear c67
       try clear c69
       try clear c70
       try clear c71
       try clear c72
       try clear c74
       try clear c75
       try clear c76
       try clear c78
       try clear c79
       try clear c80
       try clear c81
       try clear c83
       try clear c84
       try clear c85
       try clear c87
       try clear hcz13_0
       try clear hcz13_1
       try clear hcz15_0
       try clear hcz15_1
       try clear hcz22_0
       try clear hcz22_1
       try clear hcz25_0
       try clear hcz25_1
       try clear hcz25_2
       try clear hcz25_3
       try clear hcz26_0
       try clear hcz26_1
       try clear hcz32_0
       try clear hcz32_1
       try clear hcz32_2
       try clear hcz32_3
       try clear hcz33_0
       try clear hcz33_1
       try clear hcz40_0
       try clear hcz40_1
       try clear hcz40_2
       try clear hcz40_3
       try clear hcz48_0
       try clear hcz48_1
       try clear hcz48_2
       try clear hcz48_3
       try clear hcz52_0
       try clear hcz52_1
       try clear hcz52_2
       try clear hcz52_3
       try clear hcz59_0
       try clear hcz59_1
       try clear hcz59_2
       try clear hcz59_3
       try clear hcz63_0
       try clear hcz63_1
       try clear hcz63_2
       try clear hcz63_3
       try clear hcz66_0
       try clear hcz66_1
       try clear hcz68_0
       try clear hcz68_1
       try clear hcz73_0
       try clear hcz73_1
       try clear hcz73_2
       try clear hcz73_3
       try clear hcz77_0
       try clear hcz77_1
       try clear hcz77_2
       try clear hcz77_3
       try clear hcz82_0
       try clear hcz82_1
       try clear hcz82_2
       try clear hcz82_3
       try clear hcz86_0
       try clear hcz86_1
       try clear hcz86_2
       try clear hcz86_3
       try clear hfz13_0
       try clear hfz13_1
       try clear hfz15_0
       try clear hfz15_1
       try clear hfz22_0
       try clear hfz22_1
       try clear hfz25_0
       try clear hfz25_1
       try clear hfz25_2
       try clear hfz25_3
       try clear hfz26_0
       try clear hfz26_1
       try clear hfz32_0
       try clear hfz32_1
       try clear hfz32_2
       try clear hfz32_3
       try clear hfz33_0
       try clear hfz33_1
       try clear hfz40_0
       try clear hfz40_1
       try clear hfz40_2
       try clear hfz40_3
       try clear hfz48_0
       try clear hfz48_1
       try clear hfz48_2
       try clear hfz48_3
       try clear hfz52_0
       try clear hfz52_1
       try clear hfz52_2
       try clear hfz52_3
       try clear hfz59_0
       try clear hfz59_1
       try clear hfz59_2
       try clear hfz59_3
       try clear hfz63_0
       try clear hfz63_1
       try clear hfz63_2
       try clear hfz63_3
       try clear hfz66_0
       try clear hfz66_1
       try clear hfz68_0
       try clear hfz68_1
       try clear hfz73_0
       try clear hfz73_1
       try clear hfz73_2
       try clear hfz73_3
       try clear hfz77_0
       try clear hfz77_1
       try clear hfz77_2
       try clear hfz77_3
       try clear hfz82_0
       try clear hfz82_1
       try clear hfz82_2
       try clear hfz82_3
       try clear hfz86_0
       try clear hfz86_1
       try clear hfz86_2
       try clear hfz86_3
       try clear p2
       try clear p6
       try clear p64
       obtain ⟨x14_2, rfl, HA, HK2, HO_233000, HO_233001, BK218, BK232, BK233, BK240, BK246, HB⟩ := hrel
       cases gk with
       | zero => exact absurd HA.out (by simp [interchangelaw13_PoolFresh.l0])
       | succ k2 =>
        have H := HA.out
        clear HA
        simp only [interchangelaw13_PoolFresh.l0] at H
        by_cases c88 : x14_2 < (l0_1.length : Int)
        ·
         rw [if_pos c88] at H
         have c88b0 : decide (x14_2 < (l0_1.length : Int)) = true := decide_eq_true c88
         clear c88
         by_cases c89 : 0 ≤ x14_2
         ·
          rw [if_pos c89] at H
          have c89b0 : decide (0 ≤ x14_2) = true := decide_eq_true c89
          clear c89
          replace H := Option.bind_eq_some_iff.mp H
          obtain ⟨⟨t249, t250, t251, t252, t253⟩, A900, H⟩ := H
          replace H : (if t253 = true then (if (!(t249 == ((rd_T29 l0_1 x14_2).f0)) || (!(t250 == ((rd_T29 l0_1 x14_2).f1)) || (!(t251 == ((rd_T29 l0_1 x14_2).f2)) || (!(t252 == ((rd_T29 l0_1 x14_2).f3)))))) = true then (some false) else (interchangelaw13_PoolFresh.l0 k2 true (wrap64 (x14_2 + 1)) l0_0 l0_1 t221 t224)) else (some false)) = some r := H
          have A90 := Aside0.mk A900
          clear A900
          by_cases c91 : t253 = true
          ·
           subst c91
           have H1 : (if (!(t249 == ((rd_T29 l0_1 x14_2).f0)) || (!(t250 == ((rd_T29 l0_1 x14_2).f1)) || (!(t251 == ((rd_T29 l0_1 x14_2).f2)) || (!(t252 == ((rd_T29 l0_1 x14_2).f3)))))) = true then (some false) else (interchangelaw13_PoolFresh.l0 k2 true (wrap64 (x14_2 + 1)) l0_0 l0_1 t221 t224)) = some r := by rw [if_pos rfl] at H; exact H
           clear H
           have H := H1
           clear H1
           by_cases c92 : (!(t249 == ((rd_T29 l0_1 x14_2).f0)) || (!(t250 == ((rd_T29 l0_1 x14_2).f1)) || (!(t251 == ((rd_T29 l0_1 x14_2).f2)) || (!(t252 == ((rd_T29 l0_1 x14_2).f3)))))) = true
           ·
            rw [if_pos c92] at H
            exact absurd ((Option.some.inj H).trans hT_.out) (by decide)
           ·
            rw [if_neg c92] at H
            have c92b0 : (!(t249 == ((rd_T29 l0_1 x14_2).f0)) || (!(t250 == ((rd_T29 l0_1 x14_2).f1)) || (!(t251 == ((rd_T29 l0_1 x14_2).f2)) || (!(t252 == ((rd_T29 l0_1 x14_2).f3)))))) = false := by simpa using c92
            clear c92
            have H' := Aside0.mk H
            clear H
            have hnb93 := NB218_232.out
            have hnc93 := NB232_218.out
            have hnb94 := NB218_233.out
            have hnc94 := NB233_218.out
            have hnb95 := NB218_240.out
            have hnc95 := NB240_218.out
            have hnb96 := NB218_246.out
            have hnc96 := NB246_218.out
            have hcz97_0 : wr.cell? ⟨gb218, 0, none⟩ = some (.slice A0_0 l0_0.length c0_0) := (blk_cell BK218.out 0).trans rfl
            have hcz97_1 : wr.cell? ⟨gb218, 1, none⟩ = some (.slice A0_1 l0_1.length c0_1) := (blk_cell BK218.out 1).trans rfl
            have hfz97_0 := blk_frozen BK218.out 0
            have hfz97_1 := blk_frozen BK218.out 1
            try go_wp2
            have n0_ := Aside0.mk (Kd.V_drew HO_233000.out)
            have n1_ := Aside0.mk (Kd.V_drew HO_233001.out)
            have n2_ := Aside0.mk (blk_drew BK218.out)
            have n3_ := Aside0.mk (blk_drew BK232.out)
            have n4_ := Aside0.mk (blk_drew BK233.out)
            have n5_ := Aside0.mk (blk_drew BK240.out)
            have n6_ := Aside0.mk (blk_drew BK246.out)
            have n7_ := Aside0.mk (below_drew1 HB.out)
            clear HO_233000
            clear HO_233001
            clear BK218
            clear BK232
            clear BK233
            clear BK240
            clear BK246
            clear HB
            have HO_233000 := n0_
            have HO_233001 := n1_
            have BK218 := n2_
            have BK232 := n3_
            have BK233 := n4_
            have BK240 := n5_
            have BK246 := n6_
            have HB := n7_
            clear n0_ n1_ n2_ n3_ n4_ n5_ n6_ n7_
            have p247 : 0 ≤ (x14_2 : Int) := of_decide_eq_true (by first | (with_reducible assumption) | assumption)
            have q247 : x14_2 < (l0_1.length : Int) := of_decide_eq_true (by first | (with_reducible assumption) | assumption)
            obtain ⟨ad247, e247, hx247_0, hx247_1, hx247_2, hx247_3⟩ := at_T29 HR0_1.out x14_2 p247 q247
            have hw247_3 := hx247_3
            have hw247_2 := hx247_2
            have hw247_1 := hx247_1
            have hw247_0 := hx247_0
            cases e247
            replace hx247_0 := (HB.out.cell (World.block_lt_of_cell? w _ hx247_0)).trans hx247_0
            replace hx247_1 := (HB.out.cell (World.block_lt_of_cell? w _ hx247_1)).trans hx247_1
            replace hx247_2 := (HB.out.cell (World.block_lt_of_cell? w _ hx247_2)).trans hx247_2
            replace hx247_3 := (HB.out.cell (World.block_lt_of_cell? w _ hx247_3)).trans hx247_3
            replace p247 := eq_true p247
            replace q247 := eq_true q247
            have p248 : 0 ≤ (x14_2 : Int) := of_decide_eq_true (by first | (with_reducible assumption) | assumption)
            have q248 : x14_2 < (l0_1.length : Int) := of_decide_eq_true (by first | (with_reducible assumption) | assumption)
            obtain ⟨ad248, e248, hx248_0, hx248_1, hx248_2, hx248_3⟩ := at_T29 HR0_1.out x14_2 p248 q248
            have hw248_3 := hx248_3
            have hw248_2 := hx248_2
            have hw248_1 := hx248_1
            have hw248_0 := hx248_0
            obtain rfl : ad247 = ad248 := (by injection e248)
            replace hx248_0 := (HB.out.cell (World.block_lt_of_cell? w _ hx248_0)).trans hx248_0
            replace hx248_1 := (HB.out.cell (World.block_lt_of_cell? w _ hx248_1)).trans hx248_1
            replace hx248_2 := (HB.out.cell (World.block_lt_of_cell? w _ hx248_2)).trans hx248_2
            replace hx248_3 := (HB.out.cell (World.block_lt_of_cell? w _ hx248_3)).trans hx248_3
            replace p248 := eq_true p248
            replace q248 := eq_true q248
            refine start_ (n := 20) (S := fun w' => w'.cell? ⟨gb232, 0, none⟩ = some (.slice Ao19 t221.length co19) ∧ w'.cell? ⟨gb232, 1, none⟩ = some (.slice Ao23 t224.length co23) ∧ w'.cell? ⟨gb218, 0, none⟩ = some (.slice A0_0 l0_0.length c0_0) ∧ w'.cell? ⟨gb218, 1, none⟩ = some (.slice (some ad247) l0_1.length c0_1) ∧ w'.cell? (ad247.add ((x14_2).toNat * 4)) = some (.int .i64 ((rd_T29 l0_1 x14_2).f0)) ∧ w'.cell? ⟨(ad247.add ((x14_2).toNat * 4)).block, (ad247.add ((x14_2).toNat * 4)).off + 1, none⟩ = some (.int .i64 ((rd_T29 l0_1 x14_2).f1)) ∧ w'.cell? ⟨(ad247.add ((x14_2).toNat * 4)).block, (ad247.add ((x14_2).toNat * 4)).off + 2, none⟩ = some (.int .i64 ((rd_T29 l0_1 x14_2).f2)) ∧ w'.cell? ⟨(ad247.add ((x14_2).toNat * 4)).block, (ad247.add ((x14_2).toNat * 4)).off + 3, none⟩ = some (.int .i64 ((rd_T29 l0_1 x14_2).f3)) ∧ w'.cell? (ad247.add ((x14_2).toNat * 4)) = some (.int .i64 ((rd_T29 l0_1 x14_2).f0)) ∧ w'.cell? ⟨(ad247.add ((x14_2).toNat * 4)).block, (ad247.add ((x14_2).toNat * 4)).off + 1, none⟩ = some (.int .i64 ((rd_T29 l0_1 x14_2).f1)) ∧ w'.cell? ⟨(ad247.add ((x14_2).toNat * 4)).block, (ad247.add ((x14_2).toNat * 4)).off + 2, none⟩ = some (.int .i64 ((rd_T29 l0_1 x14_2).f2)) ∧ w'.cell? ⟨(ad247.add ((x14_2).toNat * 4)).block, (ad247.add ((x14_2).toNat * 4)).off + 3, none⟩ = some (.int .i64 ((rd_T29 l0_1 x14_2).f3))) (ds := []) #[false, false, false, false, false, false, false, false, false, false, false, false, false, false, false, false, false, false, false, false] (by kernel_rfl) rfl rfl ⟨(blk_cell BK232.out 0).trans rfl, (blk_cell BK232.out 1).trans rfl, (blk_cell BK218.out 0).trans rfl, (blk_cell BK218.out 1).trans rfl, ((HB.out.cell (World.block_lt_of_cell? w _ hw247_0)).trans hw247_0), ((HB.out.cell (World.block_lt_of_cell? w _ hw247_1)).trans hw247_1), ((HB.out.cell (World.block_lt_of_cell? w _ hw247_2)).trans hw247_2), ((HB.out.cell (World.block_lt_of_cell? w _ hw247_3)).trans hw247_3), ((HB.out.cell (World.block_lt_of_cell? w _ hw248_0)).trans hw248_0), ((HB.out.cell (World.block_lt_of_cell? w _ hw248_1)).trans hw248_1), ((HB.out.cell (World.block_lt_of_cell? w _ hw248_2)).trans hw248_2), ((HB.out.cell (World.block_lt_of_cell? w _ hw248_3)).trans hw248_3)⟩ (fun hHeld => ?_); refine with_tabW interchangelaw13_PoolFresh.tab15 interchangelaw13_PoolFresh.bits15 (fun HT_ HW_ => ?_)
            generalize wr.drew = w98 at HO_233000 HO_233001 BK218 BK232 BK233 BK240 BK246 HB hx247_0 hx247_1 hx247_2 hx247_3 hx248_0 hx248_1 hx248_2 hx248_3 hHeld ⊢
            refine pure_ (i := 1) (N := some 98) (v := ?_) (a' := ?_) #[false, true, false, false, false, false, false, false, false, false, false, false, false, false, false, false, false, false, false, false] rfl rfl (any_of HT_.out (by kernel_rfl)) (fun _ _ _ h => h) (Or.inl ⟨by rfl, ?_⟩) ?_ ?_
            rotate_left
            ·
             intro w'
             go_simp
             with_reducible rfl
            rotate_left
            ·
             simp only [Act.put, List.setIfInBounds_toArray, List.set_cons_zero, List.set_cons_succ, i64_w, i32_w]
             rfl
            refine pure_ (i := 3) (N := some 100) (v := ?_) (a' := ?_) #[false, true, false, true, false, false, false, false, false, false, false, false, false, false, false, false, false, false, false, false] rfl rfl (any_of HT_.out (by kernel_rfl)) (fun _ _ _ h => h) (Or.inl ⟨by rfl, ?_⟩) ?_ ?_
            rotate_left
            ·
             intro w'
             go_simp
             with_reducible rfl
            rotate_left
            ·
             simp only [Act.put, List.setIfInBounds_toArray, List.set_cons_zero, List.set_cons_succ, i64_w, i32_w]
             rfl
            refine pure_ (i := 7) (N := some 104) (v := ?_) (a' := ?_) #[false, true, false, true, false, false, false, true, false, false, false, false, false, false, false, false, false, false, false, false] rfl rfl (any_of HT_.out (by kernel_rfl)) (fun _ _ _ h => h) (Or.inl ⟨by rfl, ?_⟩) ?_ ?_
            rotate_left
            ·
             intro w'
             go_simp
             with_reducible rfl
            rotate_left
            ·
             simp only [Act.put, List.setIfInBounds_toArray, List.set_cons_zero, List.set_cons_succ, i64_w, i32_w]
             rfl
            refine pure_ (i := 9) (N := some 106) (v := ?_) (a' := ?_) #[false, true, false, true, false, false, false, true, false, true, false, false, false, false, false, false, false, false, false, false] rfl rfl (any_of HT_.out (by kernel_rfl)) (fun _ _ _ h => h) (Or.inl ⟨by rfl, ?_⟩) ?_ ?_
            rotate_left
            ·
             intro w'
             go_simp
             with_reducible rfl
            rotate_left
            ·
             simp only [Act.put, List.setIfInBounds_toArray, List.set_cons_zero, List.set_cons_succ, i64_w, i32_w]
             rfl
            refine take_ (i := 0) (N := some 97) (v := ?_) (a' := ?_) #[true, true, false, true, false, false, false, true, false, true, false, false, false, false, false, false, false, false, false, false] rfl rfl (take_ofW HT_.out HW_.out (by kernel_rfl)) (fun _ _ _ h => h) (Or.inl ⟨by rfl, ?_⟩) hHeld ?_ ?_
            rotate_left
            ·
             rintro w' ⟨s0, s1, s2, s3, s4, s5, s6, s7, s8, s9, s10, s11⟩
             go_simp
             with_reducible rfl
            rotate_left
            ·
             simp only [Act.put, List.setIfInBounds_toArray, List.set_cons_zero, List.set_cons_succ, i64_w, i32_w]
             rfl
            refine take_ (i := 2) (N := some 99) (v := ?_) (a' := ?_) #[true, true, true, true, false, false, false, true, false, true, false, false, false, false, false, false, false, false, false, false] rfl rfl (take_ofW HT_.out HW_.out (by kernel_rfl)) (fun _ _ _ h => h) (Or.inl ⟨by rfl, ?_⟩) hHeld ?_ ?_
            rotate_left
            ·
             rintro w' ⟨s0, s1, s2, s3, s4, s5, s6, s7, s8, s9, s10, s11⟩
             go_simp
             with_reducible rfl
            rotate_left
            ·
             simp only [Act.put, List.setIfInBounds_toArray, List.set_cons_zero, List.set_cons_succ, i64_w, i32_w]
             rfl
            refine pure_ (i := 4) (N := some 101) (v := ?_) (a' := ?_) #[true, true, true, true, true, false, false, true, false, true, false, false, false, false, false, false, false, false, false, false] rfl rfl (any_of HT_.out (by kernel_rfl)) (fun _ _ _ h => h) (Or.inl ⟨by rfl, ?_⟩) ?_ ?_
            rotate_left
            ·
             intro w'
             go_simp
             with_reducible rfl
            rotate_left
            ·
             simp only [Act.put, List.setIfInBounds_toArray, List.set_cons_zero, List.set_cons_succ, i64_w, i32_w]
             rfl
            refine pure_ (i := 5) (N := some 102) (v := ?_) (a' := ?_) #[true, true, true, true, true, true, false, true, false, true, false, false, false, false, false, false, false, false, false, false] rfl rfl (any_of HT_.out (by kernel_rfl)) (fun _ _ _ h => h) (Or.inl ⟨by rfl, ?_⟩) ?_ ?_
            rotate_left
            ·
             intro w'
             go_simp
             with_reducible rfl
            rotate_left
            ·
             simp only [Act.put, List.setIfInBounds_toArray, List.set_cons_zero, List.set_cons_succ, i64_w, i32_w]
             rfl
            refine take_ (i := 6) (N := some 103) (v := ?_) (a' := ?_) #[true, true, true, true, true, true, true, true, false, true, false, false, false, false, false, false, false, false, false, false] rfl rfl (take_ofW HT_.out HW_.out (by kernel_rfl)) (fun _ _ _ h => h) (Or.inl ⟨by rfl, ?_⟩) hHeld ?_ ?_
            rotate_left
            ·
             rintro w' ⟨s0, s1, s2, s3, s4, s5, s6, s7, s8, s9, s10, s11⟩
             go_simp
             with_reducible rfl
            rotate_left
            ·
             simp only [Act.put, List.setIfInBounds_toArray, List.set_cons_zero, List.set_cons_succ, i64_w, i32_w]
             rfl
            refine take_ (i := 8) (N := some 105) (v := ?_) (a' := ?_) #[true, true, true, true, true, true, true, true, true, true, false, false, false, false, false, false, false, false, false, false] rfl rfl (take_ofW HT_.out HW_.out (by kernel_rfl)) (fun _ _ _ h => h) (Or.inl ⟨by rfl, ?_⟩) hHeld ?_ ?_
            rotate_left
            ·
             rintro w' ⟨s0, s1, s2, s3, s4, s5, s6, s7, s8, s9, s10, s11⟩
             go_simp
             with_reducible rfl
            rotate_left
            ·
             simp only [Act.put, List.setIfInBounds_toArray, List.set_cons_zero, List.set_cons_succ, i64_w, i32_w]
             rfl
            refine pure_ (i := 10) (N := some 107) (v := ?_) (a' := ?_) #[true, true, true, true, true, true, true, true, true, true, true, false, false, false, false, false, false, false, false, false] rfl rfl (any_of HT_.out (by kernel_rfl)) (fun _ _ _ h => h) (Or.inl ⟨by rfl, ?_⟩) ?_ ?_
            rotate_left
            ·
             intro w'
             go_simp
             with_reducible rfl
            rotate_left
            ·
             simp only [Act.put, List.setIfInBounds_toArray, List.set_cons_zero, List.set_cons_succ, i64_w, i32_w]
             rfl
            refine pure_ (i := 11) (N := some 108) (v := ?_) (a' := ?_) #[true, true, true, true, true, true, true, true, true, true, true, true, false, false, false, false, false, false, false, false] rfl rfl (any_of HT_.out (by kernel_rfl)) (fun _ _ _ h => h) (Or.inl ⟨by rfl, ?_⟩) ?_ ?_
            rotate_left
            ·
             intro w'
             go_simp
             with_reducible rfl
            rotate_left
            ·
             simp only [Act.put, List.setIfInBounds_toArray, List.set_cons_zero, List.set_cons_succ, i64_w, i32_w]
             rfl
            refine take_ (i := 12) (N := some 109) (v := ?_) (a' := ?_) #[true, true, true, true, true, true, true, true, true, true, true, true, true, false, false, false, false, false, false, false] rfl rfl (take_ofW HT_.out HW_.out (by kernel_rfl)) (fun _ _ _ h => h) (Or.inl ⟨by rfl, ?_⟩) hHeld ?_ ?_
            rotate_left
            ·
             rintro w' ⟨s0, s1, s2, s3, s4, s5, s6, s7, s8, s9, s10, s11⟩
             go_simp
             with_reducible rfl
            rotate_left
            ·
             simp only [Act.put, List.setIfInBounds_toArray, List.set_cons_zero, List.set_cons_succ, i64_w, i32_w]
             rfl
            refine join_ (σ := Nat) 2 #[true, true, true, true, true, true, true, true, true, true, true, true, true, true, true, true, true, true, false, false] (fun s_ => [(110, .tuple #[.agg #[.int .i64 t249, .int .i64 t250, .int .i64 t251, .int .i64 t252], .bool true]), (15, .pointer (some ⟨s_, 0, none⟩)), (96, .tuple #[.agg #[.int .i64 t249, .int .i64 t250, .int .i64 t251, .int .i64 t252], .bool true]), (111, .agg #[.int .i64 t249, .int .i64 t250, .int .i64 t251, .int .i64 t252]), (112, .bool true)]) (fun s_ w' => (w'.cell? ⟨gb232, 0, none⟩ = some (.slice Ao19 t221.length co19) ∧ w'.cell? ⟨gb232, 1, none⟩ = some (.slice Ao23 t224.length co23) ∧ w'.cell? ⟨gb218, 0, none⟩ = some (.slice A0_0 l0_0.length c0_0) ∧ w'.cell? ⟨gb218, 1, none⟩ = some (.slice (some ad247) l0_1.length c0_1) ∧ w'.cell? (ad247.add ((x14_2).toNat * 4)) = some (.int .i64 ((rd_T29 l0_1 x14_2).f0)) ∧ w'.cell? ⟨(ad247.add ((x14_2).toNat * 4)).block, (ad247.add ((x14_2).toNat * 4)).off + 1, none⟩ = some (.int .i64 ((rd_T29 l0_1 x14_2).f1)) ∧ w'.cell? ⟨(ad247.add ((x14_2).toNat * 4)).block, (ad247.add ((x14_2).toNat * 4)).off + 2, none⟩ = some (.int .i64 ((rd_T29 l0_1 x14_2).f2)) ∧ w'.cell? ⟨(ad247.add ((x14_2).toNat * 4)).block, (ad247.add ((x14_2).toNat * 4)).off + 3, none⟩ = some (.int .i64 ((rd_T29 l0_1 x14_2).f3)) ∧ w'.cell? (ad247.add ((x14_2).toNat * 4)) = some (.int .i64 ((rd_T29 l0_1 x14_2).f0)) ∧ w'.cell? ⟨(ad247.add ((x14_2).toNat * 4)).block, (ad247.add ((x14_2).toNat * 4)).off + 1, none⟩ = some (.int .i64 ((rd_T29 l0_1 x14_2).f1)) ∧ w'.cell? ⟨(ad247.add ((x14_2).toNat * 4)).block, (ad247.add ((x14_2).toNat * 4)).off + 2, none⟩ = some (.int .i64 ((rd_T29 l0_1 x14_2).f2)) ∧ w'.cell? ⟨(ad247.add ((x14_2).toNat * 4)).block, (ad247.add ((x14_2).toNat * 4)).off + 3, none⟩ = some (.int .i64 ((rd_T29 l0_1 x14_2).f3))) ∧ (Kd.V (Kd.int .i64) 3 w' w.heap.size (fun k_ => k_ ≠ gb218 ∧ k_ ≠ gb232 ∧ k_ ≠ gb233 ∧ k_ ≠ gb240 ∧ k_ ≠ gb246 ∧ k_ ≠ s_) (.slice Ao19 t221.length co19) t221) ∧ (Kd.V k29 29 w' w.heap.size (fun k_ => k_ ≠ gb218 ∧ k_ ≠ gb232 ∧ k_ ≠ gb233 ∧ k_ ≠ gb240 ∧ k_ ≠ gb246 ∧ k_ ≠ s_) (.slice Ao23 t224.length co23) t224) ∧ (w'.heap[gb218]? = some (.cells #[.slice A0_0 l0_0.length c0_0, .slice (some ad247) l0_1.length c0_1] 25 (0, 0))) ∧ (w'.heap[gb232]? = some (.cells #[.slice Ao19 t221.length co19, .slice Ao23 t224.length co23] 25 (0, 0))) ∧ (w'.heap[gb233]? = some (.cells #[.int .i64 t227, .int .i64 t228, .int .i64 t229, .int .i64 t230] 29 (0, 0))) ∧ (w'.heap[gb240]? = some (.cells #[.int .i64 t235, .int .i64 t236, .int .i64 t237, .int .i64 t238] 29 (0, 0))) ∧ (w'.heap[gb246]? = some (.cells #[.int .i64 t241, .int .i64 t242, .int .i64 t243, .int .i64 t244] 29 (0, 0))) ∧ (w'.heap[s_]? = some (.cells #[.int .i64 0, .int .i64 0, .int .i64 0, .int .i64 0] 29 (0, 0))) ∧ (w.heap.size ≤ s_) ∧ (w.heap.size ≤ s_) ∧ (gb218 ≠ s_) ∧ (s_ ≠ gb218) ∧ (gb232 ≠ s_) ∧ (s_ ≠ gb232) ∧ (gb233 ≠ s_) ∧ (s_ ≠ gb233) ∧ (gb240 ≠ s_) ∧ (s_ ≠ gb240) ∧ (gb246 ≠ s_) ∧ (s_ ≠ gb246) ∧ (Below w.heap.size w w')) ?_ ?_
            rotate_left
            ·
             intro hCont
             refine two_ (i := 13) (j := 17) (Ni := some 110) (Nj := some 15) #[true, true, true, true, true, true, true, true, true, true, true, true, true, true, false, false, false, false, false, false] #[true, true, true, true, true, true, true, true, true, true, true, true, true, false, false, false, false, true, false, false] rfl rfl rfl rfl (two_of HT_.out (by kernel_rfl)) (by decide) (by decide) (fun K hK => ?_) (fun K hK => ?_)
             ·
              skip
              refine goes_ Try.func16 (by kernel_rfl) rfl #[.agg #[.slice Ao19 t221.length co19, .slice Ao23 t224.length co23], .int .i64 ((rd_T29 l0_1 x14_2).f0), .int .i64 ((rd_T29 l0_1 x14_2).f1)] (by rfl) rfl rfl (by (try simp only [List.map_toArray, List.map_cons, List.map_nil]); first | done | rfl | (simp only [List.length_drop, List.length_take]; rfl)) ?_
              with_reducible refine (pool_At.calls _ _ t221 _ _ t224 ((rd_T29 l0_1 x14_2).f0) ((rd_T29 l0_1 x14_2).f1) t249 t250 t251 t252 true _ ?side1 ?side2 ?side3 ?side4 A90.out).mono ?_
              (case side1 => repeat (first | exact (Kd.V_reads' HO_233000.out).2.2 | (with_reducible refine Kd.C_alloc ?_ _) | (with_reducible refine Kd.C_drewN ?_ _) | (with_reducible refine Kd.C_drew ?_)))
              (case side2 => exact (Kd.V_reads' HO_233000.out).2.1)
              (case side3 => repeat (first | exact (Kd.V_reads' HO_233001.out).2.2 | (with_reducible refine Kd.C_alloc ?_ _) | (with_reducible refine Kd.C_drewN ?_ _) | (with_reducible refine Kd.C_drew ?_)))
              (case side4 => exact (Kd.V_reads' HO_233001.out).2.1)
              rintro e w99 ⟨rfl, hb⟩
              refine ⟨_, rfl, ?_⟩
              have n0_ := Aside0.mk (Kd.V_below (vk HO_233000.out) hb)
              have n1_ := Aside0.mk (Kd.V_below (vk HO_233001.out) hb)
              have n2_ := Aside0.mk (blk_below (bk BK218.out) hb)
              have n3_ := Aside0.mk (blk_below (bk BK232.out) hb)
              have n4_ := Aside0.mk (blk_below (bk BK233.out) hb)
              have n5_ := Aside0.mk (blk_below (bk BK240.out) hb)
              have n6_ := Aside0.mk (blk_below (bk BK246.out) hb)
              have n7_ := Aside0.mk (below_step (by repeat (first | (with_reducible first | exact HB.out | apply bA | apply bN | apply bD | refine bS ?_ ‹_›) | exact HB.out)) hb)
              clear HO_233000
              clear HO_233001
              clear BK218
              clear BK232
              clear BK233
              clear BK240
              clear BK246
              clear HB
              have HO_233000 := n0_
              have HO_233001 := n1_
              have BK218 := n2_
              have BK232 := n3_
              have BK233 := n4_
              have BK240 := n5_
              have BK246 := n6_
              have HB := n7_
              clear n0_ n1_ n2_ n3_ n4_ n5_ n6_ n7_
              (try clear hb)
              (try clear hb2)
              (try clear hk)
              (try clear hi)
              refine hK.out _ _ ⟨(blk_cell BK232.out 0).trans rfl, (blk_cell BK232.out 1).trans rfl, (blk_cell BK218.out 0).trans rfl, (blk_cell BK218.out 1).trans rfl, ((HB.out.cell (World.block_lt_of_cell? w _ hw247_0)).trans hw247_0), ((HB.out.cell (World.block_lt_of_cell? w _ hw247_1)).trans hw247_1), ((HB.out.cell (World.block_lt_of_cell? w _ hw247_2)).trans hw247_2), ((HB.out.cell (World.block_lt_of_cell? w _ hw247_3)).trans hw247_3), ((HB.out.cell (World.block_lt_of_cell? w _ hw248_0)).trans hw248_0), ((HB.out.cell (World.block_lt_of_cell? w _ hw248_1)).trans hw248_1), ((HB.out.cell (World.block_lt_of_cell? w _ hw248_2)).trans hw248_2), ((HB.out.cell (World.block_lt_of_cell? w _ hw248_3)).trans hw248_3)⟩ (fun hHeld => ?_)
              clear hK K
              refine norm_ (a' := ?_) ?_ ?_
              rotate_left
              ·
               show Act.put _ (some 110) _ = _
               simp only [Act.put, List.setIfInBounds_toArray, List.set_cons_zero, List.set_cons_succ, i64_w, i32_w]
               rfl
              refine pure_ (i := 14) (N := some 96) (v := ?_) (a' := ?_) #[true, true, true, true, true, true, true, true, true, true, true, true, true, true, true, false, false, false, false, false] rfl rfl (any_of HT_.out (by kernel_rfl)) (fun _ _ _ h => h) (Or.inl ⟨by rfl, ?_⟩) ?_ ?_
              rotate_left
              ·
               intro w'
               go_simp
               with_reducible rfl
              rotate_left
              ·
               simp only [Act.put, List.setIfInBounds_toArray, List.set_cons_zero, List.set_cons_succ, i64_w, i32_w]
               rfl
              refine pure_ (i := 15) (N := some 111) (v := ?_) (a' := ?_) #[true, true, true, true, true, true, true, true, true, true, true, true, true, true, true, true, false, false, false, false] rfl rfl (any_of HT_.out (by kernel_rfl)) (fun _ _ _ h => h) (Or.inl ⟨by rfl, ?_⟩) ?_ ?_
              rotate_left
              ·
               intro w'
               go_simp
               with_reducible rfl
              rotate_left
              ·
               simp only [Act.put, List.setIfInBounds_toArray, List.set_cons_zero, List.set_cons_succ, i64_w, i32_w]
               rfl
              refine pure_ (i := 16) (N := some 112) (v := ?_) (a' := ?_) #[true, true, true, true, true, true, true, true, true, true, true, true, true, true, true, true, true, false, false, false] rfl rfl (any_of HT_.out (by kernel_rfl)) (fun _ _ _ h => h) (Or.inl ⟨by rfl, ?_⟩) ?_ ?_
              rotate_left
              ·
               intro w'
               go_simp
               with_reducible rfl
              rotate_left
              ·
               simp only [Act.put, List.setIfInBounds_toArray, List.set_cons_zero, List.set_cons_succ, i64_w, i32_w]
               rfl
              refine one_ (i := 17) (N := some 15) #[true, true, true, true, true, true, true, true, true, true, true, true, true, true, true, true, true, true, false, false] rfl rfl (one_of HT_.out (by kernel_rfl)) (by decide) (fun K hK => ?_)
              refine box_step ?hg (N := 15) ?hd (cs := #[.int .i64 0, .int .i64 0, .int .i64 0, .int .i64 0]) (t := 29) ?hr ?_; (case hd => rfl); (case hg => rfl); (case hr => first | (go_simp; done) | (go_simp; rfl))
              intro gb254 hg w100 hbox hb
              have n0_ := Aside0.mk (Kd.V_below (Kd.V_elderB (vk HO_233000.out) gb254 (Nat.le_of_eq hg.symm)) hb)
              have n1_ := Aside0.mk (Kd.V_below (Kd.V_elderB (vk HO_233001.out) gb254 (Nat.le_of_eq hg.symm)) hb)
              have n2_ := Aside0.mk (blk_below (bk BK218.out) hb)
              have n3_ := Aside0.mk (blk_below (bk BK232.out) hb)
              have n4_ := Aside0.mk (blk_below (bk BK233.out) hb)
              have n5_ := Aside0.mk (blk_below (bk BK240.out) hb)
              have n6_ := Aside0.mk (blk_below (bk BK246.out) hb)
              have n7_ := Aside0.mk (below_step (by repeat (first | (with_reducible first | exact HB.out | apply bA | apply bN | apply bD | refine bS ?_ ‹_›) | exact HB.out)) hb)
              have n8_ := Aside0.mk (hbox)
              have n9_ := Aside0.mk ((by rw [hg]; exact (below_size (by repeat (first | (with_reducible first | exact HB.out | apply bA | apply bN | apply bD | refine bS ?_ ‹_›) | exact HB.out))) : w.heap.size ≤ gb254))
              have n10_ := Aside0.mk ((by rw [hg]; exact (below_size (by repeat (first | (with_reducible first | exact HB.out | apply bA | apply bN | apply bD | refine bS ?_ ‹_›) | exact HB.out))) : w.heap.size ≤ gb254))
              have n11_ := Aside0.mk ((by rw [hg]; exact Nat.ne_of_lt (blk_lt (bk BK218.out)) : gb218 ≠ gb254))
              have n12_ := Aside0.mk ((by rw [hg]; exact Nat.ne_of_gt (blk_lt (bk BK218.out)) : gb254 ≠ gb218))
              have n13_ := Aside0.mk ((by rw [hg]; exact Nat.ne_of_lt (blk_lt (bk BK232.out)) : gb232 ≠ gb254))
              have n14_ := Aside0.mk ((by rw [hg]; exact Nat.ne_of_gt (blk_lt (bk BK232.out)) : gb254 ≠ gb232))
              have n15_ := Aside0.mk ((by rw [hg]; exact Nat.ne_of_lt (blk_lt (bk BK233.out)) : gb233 ≠ gb254))
              have n16_ := Aside0.mk ((by rw [hg]; exact Nat.ne_of_gt (blk_lt (bk BK233.out)) : gb254 ≠ gb233))
              have n17_ := Aside0.mk ((by rw [hg]; exact Nat.ne_of_lt (blk_lt (bk BK240.out)) : gb240 ≠ gb254))
              have n18_ := Aside0.mk ((by rw [hg]; exact Nat.ne_of_gt (blk_lt (bk BK240.out)) : gb254 ≠ gb240))
              have n19_ := Aside0.mk ((by rw [hg]; exact Nat.ne_of_lt (blk_lt (bk BK246.out)) : gb246 ≠ gb254))
              have n20_ := Aside0.mk ((by rw [hg]; exact Nat.ne_of_gt (blk_lt (bk BK246.out)) : gb254 ≠ gb246))
              clear HO_233000
              clear HO_233001
              clear BK218
              clear BK232
              clear BK233
              clear BK240
              clear BK246
              clear HB
              have HO_233000 := n0_
              have HO_233001 := n1_
              have BK218 := n2_
              have BK232 := n3_
              have BK233 := n4_
              have BK240 := n5_
              have BK246 := n6_
              have HB := n7_
              have BK254 := n8_
              have GW254 := n9_
              have GE254 := n10_
              have NB218_254 := n11_
              have NB254_218 := n12_
              have NB232_254 := n13_
              have NB254_232 := n14_
              have NB233_254 := n15_
              have NB254_233 := n16_
              have NB240_254 := n17_
              have NB254_240 := n18_
              have NB246_254 := n19_
              have NB254_246 := n20_
              clear n0_ n1_ n2_ n3_ n4_ n5_ n6_ n7_ n8_ n9_ n10_ n11_ n12_ n13_ n14_ n15_ n16_ n17_ n18_ n19_ n20_
              clear hb hbox hg
              refine hK.out _ _ ⟨(blk_cell BK232.out 0).trans rfl, (blk_cell BK232.out 1).trans rfl, (blk_cell BK218.out 0).trans rfl, (blk_cell BK218.out 1).trans rfl, ((HB.out.cell (World.block_lt_of_cell? w _ hw247_0)).trans hw247_0), ((HB.out.cell (World.block_lt_of_cell? w _ hw247_1)).trans hw247_1), ((HB.out.cell (World.block_lt_of_cell? w _ hw247_2)).trans hw247_2), ((HB.out.cell (World.block_lt_of_cell? w _ hw247_3)).trans hw247_3), ((HB.out.cell (World.block_lt_of_cell? w _ hw248_0)).trans hw248_0), ((HB.out.cell (World.block_lt_of_cell? w _ hw248_1)).trans hw248_1), ((HB.out.cell (World.block_lt_of_cell? w _ hw248_2)).trans hw248_2), ((HB.out.cell (World.block_lt_of_cell? w _ hw248_3)).trans hw248_3)⟩ (fun hHeld => ?_)
              clear hK K
              refine norm_ (a' := ?_) ?_ ?_
              rotate_left
              ·
               show Act.put _ (some 15) _ = _
               simp only [Act.put, List.setIfInBounds_toArray, List.set_cons_zero, List.set_cons_succ, i64_w, i32_w]
               rfl
              exact norm_ (by simp only [putAll, Act.put, List.setIfInBounds_toArray, List.set_cons_zero, List.set_cons_succ]) (hCont (gb254) _ ⟨hHeld, (by (with_reducible repeat (first | apply Kd.V_alloc | apply Kd.V_drewN | apply Kd.V_drew)); exact Kd.V_mono HO_233000.out (fun _ hk => ⟨hk.1.1, ⟨hk.1.2.1, ⟨hk.1.2.2.1, ⟨hk.1.2.2.2.1, ⟨hk.1.2.2.2.2, hk.2⟩⟩⟩⟩⟩)), (by (with_reducible repeat (first | apply Kd.V_alloc | apply Kd.V_drewN | apply Kd.V_drew)); exact Kd.V_mono HO_233001.out (fun _ hk => ⟨hk.1.1, ⟨hk.1.2.1, ⟨hk.1.2.2.1, ⟨hk.1.2.2.2.1, ⟨hk.1.2.2.2.2, hk.2⟩⟩⟩⟩⟩)), (bk BK218.out), (bk BK232.out), (bk BK233.out), (bk BK240.out), (bk BK246.out), (bk BK254.out), GW254.out, GE254.out, NB218_254.out, NB254_218.out, NB232_254.out, NB254_232.out, NB233_254.out, NB254_233.out, NB240_254.out, NB254_240.out, NB246_254.out, NB254_246.out, (by repeat (first | (with_reducible first | exact HB.out | apply bA | apply bN | apply bD | refine bS ?_ ‹_›) | exact HB.out))⟩)
             ·
              skip
              refine box_step ?hg (N := 15) ?hd (cs := #[.int .i64 0, .int .i64 0, .int .i64 0, .int .i64 0]) (t := 29) ?hr ?_; (case hd => rfl); (case hg => rfl); (case hr => first | (go_simp; done) | (go_simp; rfl))
              intro gb254 hg w99 hbox hb
              have n0_ := Aside0.mk (Kd.V_below (Kd.V_elderB (vk HO_233000.out) gb254 (Nat.le_of_eq hg.symm)) hb)
              have n1_ := Aside0.mk (Kd.V_below (Kd.V_elderB (vk HO_233001.out) gb254 (Nat.le_of_eq hg.symm)) hb)
              have n2_ := Aside0.mk (blk_below (bk BK218.out) hb)
              have n3_ := Aside0.mk (blk_below (bk BK232.out) hb)
              have n4_ := Aside0.mk (blk_below (bk BK233.out) hb)
              have n5_ := Aside0.mk (blk_below (bk BK240.out) hb)
              have n6_ := Aside0.mk (blk_below (bk BK246.out) hb)
              have n7_ := Aside0.mk (below_step (by repeat (first | (with_reducible first | exact HB.out | apply bA | apply bN | apply bD | refine bS ?_ ‹_›) | exact HB.out)) hb)
              have n8_ := Aside0.mk (hbox)
              have n9_ := Aside0.mk ((by rw [hg]; exact (below_size (by repeat (first | (with_reducible first | exact HB.out | apply bA | apply bN | apply bD | refine bS ?_ ‹_›) | exact HB.out))) : w.heap.size ≤ gb254))
              have n10_ := Aside0.mk ((by rw [hg]; exact (below_size (by repeat (first | (with_reducible first | exact HB.out | apply bA | apply bN | apply bD | refine bS ?_ ‹_›) | exact HB.out))) : w.heap.size ≤ gb254))
              have n11_ := Aside0.mk ((by rw [hg]; exact Nat.ne_of_lt (blk_lt (bk BK218.out)) : gb218 ≠ gb254))
              have n12_ := Aside0.mk ((by rw [hg]; exact Nat.ne_of_gt (blk_lt (bk BK218.out)) : gb254 ≠ gb218))
              have n13_ := Aside0.mk ((by rw [hg]; exact Nat.ne_of_lt (blk_lt (bk BK232.out)) : gb232 ≠ gb254))
              have n14_ := Aside0.mk ((by rw [hg]; exact Nat.ne_of_gt (blk_lt (bk BK232.out)) : gb254 ≠ gb232))
              have n15_ := Aside0.mk ((by rw [hg]; exact Nat.ne_of_lt (blk_lt (bk BK233.out)) : gb233 ≠ gb254))
              have n16_ := Aside0.mk ((by rw [hg]; exact Nat.ne_of_gt (blk_lt (bk BK233.out)) : gb254 ≠ gb233))
              have n17_ := Aside0.mk ((by rw [hg]; exact Nat.ne_of_lt (blk_lt (bk BK240.out)) : gb240 ≠ gb254))
              have n18_ := Aside0.mk ((by rw [hg]; exact Nat.ne_of_gt (blk_lt (bk BK240.out)) : gb254 ≠ gb240))
              have n19_ := Aside0.mk ((by rw [hg]; exact Nat.ne_of_lt (blk_lt (bk BK246.out)) : gb246 ≠ gb254))
              have n20_ := Aside0.mk ((by rw [hg]; exact Nat.ne_of_gt (blk_lt (bk BK246.out)) : gb254 ≠ gb246))
              clear HO_233000
              clear HO_233001
              clear BK218
              clear BK232
              clear BK233
              clear BK240
              clear BK246
              clear HB
              have HO_233000 := n0_
              have HO_233001 := n1_
              have BK218 := n2_
              have BK232 := n3_
              have BK233 := n4_
              have BK240 := n5_
              have BK246 := n6_
              have HB := n7_
              have BK254 := n8_
              have GW254 := n9_
              have GE254 := n10_
              have NB218_254 := n11_
              have NB254_218 := n12_
              have NB232_254 := n13_
              have NB254_232 := n14_
              have NB233_254 := n15_
              have NB254_233 := n16_
              have NB240_254 := n17_
              have NB254_240 := n18_
              have NB246_254 := n19_
              have NB254_246 := n20_
              clear n0_ n1_ n2_ n3_ n4_ n5_ n6_ n7_ n8_ n9_ n10_ n11_ n12_ n13_ n14_ n15_ n16_ n17_ n18_ n19_ n20_
              clear hb hbox hg
              refine hK.out _ _ ⟨(blk_cell BK232.out 0).trans rfl, (blk_cell BK232.out 1).trans rfl, (blk_cell BK218.out 0).trans rfl, (blk_cell BK218.out 1).trans rfl, ((HB.out.cell (World.block_lt_of_cell? w _ hw247_0)).trans hw247_0), ((HB.out.cell (World.block_lt_of_cell? w _ hw247_1)).trans hw247_1), ((HB.out.cell (World.block_lt_of_cell? w _ hw247_2)).trans hw247_2), ((HB.out.cell (World.block_lt_of_cell? w _ hw247_3)).trans hw247_3), ((HB.out.cell (World.block_lt_of_cell? w _ hw248_0)).trans hw248_0), ((HB.out.cell (World.block_lt_of_cell? w _ hw248_1)).trans hw248_1), ((HB.out.cell (World.block_lt_of_cell? w _ hw248_2)).trans hw248_2), ((HB.out.cell (World.block_lt_of_cell? w _ hw248_3)).trans hw248_3)⟩ (fun hHeld => ?_)
              clear hK K
              refine norm_ (a' := ?_) ?_ ?_
              rotate_left
              ·
               show Act.put _ (some 15) _ = _
               simp only [Act.put, List.setIfInBounds_toArray, List.set_cons_zero, List.set_cons_succ, i64_w, i32_w]
               rfl
              refine one_ (i := 13) (N := some 110) #[true, true, true, true, true, true, true, true, true, true, true, true, true, true, false, false, false, true, false, false] rfl rfl (one_of HT_.out (by kernel_rfl)) (by decide) (fun K hK => ?_)
              refine goes_ Try.func16 (by kernel_rfl) rfl #[.agg #[.slice Ao19 t221.length co19, .slice Ao23 t224.length co23], .int .i64 ((rd_T29 l0_1 x14_2).f0), .int .i64 ((rd_T29 l0_1 x14_2).f1)] (by rfl) rfl rfl (by (try simp only [List.map_toArray, List.map_cons, List.map_nil]); first | done | rfl | (simp only [List.length_drop, List.length_take]; rfl)) ?_
              with_reducible refine (pool_At.calls _ _ t221 _ _ t224 ((rd_T29 l0_1 x14_2).f0) ((rd_T29 l0_1 x14_2).f1) t249 t250 t251 t252 true _ ?side1 ?side2 ?side3 ?side4 A90.out).mono ?_
              (case side1 => repeat (first | exact (Kd.V_reads' HO_233000.out).2.2 | (with_reducible refine Kd.C_alloc ?_ _) | (with_reducible refine Kd.C_drewN ?_ _) | (with_reducible refine Kd.C_drew ?_)))
              (case side2 => exact (Kd.V_reads' HO_233000.out).2.1)
              (case side3 => repeat (first | exact (Kd.V_reads' HO_233001.out).2.2 | (with_reducible refine Kd.C_alloc ?_ _) | (with_reducible refine Kd.C_drewN ?_ _) | (with_reducible refine Kd.C_drew ?_)))
              (case side4 => exact (Kd.V_reads' HO_233001.out).2.1)
              rintro e w100 ⟨rfl, hb⟩
              refine ⟨_, rfl, ?_⟩
              have n0_ := Aside0.mk (Kd.V_below (vk HO_233000.out) hb)
              have n1_ := Aside0.mk (Kd.V_below (vk HO_233001.out) hb)
              have n2_ := Aside0.mk (blk_below (bk BK218.out) hb)
              have n3_ := Aside0.mk (blk_below (bk BK232.out) hb)
              have n4_ := Aside0.mk (blk_below (bk BK233.out) hb)
              have n5_ := Aside0.mk (blk_below (bk BK240.out) hb)
              have n6_ := Aside0.mk (blk_below (bk BK246.out) hb)
              have n7_ := Aside0.mk (blk_below (bk BK254.out) hb)
              have n8_ := Aside0.mk (below_step (by repeat (first | (with_reducible first | exact HB.out | apply bA | apply bN | apply bD | refine bS ?_ ‹_›) | exact HB.out)) hb)
              clear HO_233000
              clear HO_233001
              clear BK218
              clear BK232
              clear BK233
              clear BK240
              clear BK246
              clear BK254
              clear HB
              have HO_233000 := n0_
              have HO_233001 := n1_
              have BK218 := n2_
              have BK232 := n3_
              have BK233 := n4_
              have BK240 := n5_
              have BK246 := n6_
              have BK254 := n7_
              have HB := n8_
              clear n0_ n1_ n2_ n3_ n4_ n5_ n6_ n7_ n8_
              (try clear hb)
              (try clear hb2)
              (try clear hk)
              (try clear hi)
              refine hK.out _ _ ⟨(blk_cell BK232.out 0).trans rfl, (blk_cell BK232.out 1).trans rfl, (blk_cell BK218.out 0).trans rfl, (blk_cell BK218.out 1).trans rfl, ((HB.out.cell (World.block_lt_of_cell? w _ hw247_0)).trans hw247_0), ((HB.out.cell (World.block_lt_of_cell? w _ hw247_1)).trans hw247_1), ((HB.out.cell (World.block_lt_of_cell? w _ hw247_2)).trans hw247_2), ((HB.out.cell (World.block_lt_of_cell? w _ hw247_3)).trans hw247_3), ((HB.out.cell (World.block_lt_of_cell? w _ hw248_0)).trans hw248_0), ((HB.out.cell (World.block_lt_of_cell? w _ hw248_1)).trans hw248_1), ((HB.out.cell (World.block_lt_of_cell? w _ hw248_2)).trans hw248_2), ((HB.out.cell (World.block_lt_of_cell? w _ hw248_3)).trans hw248_3)⟩ (fun hHeld => ?_)
              clear hK K
              refine norm_ (a' := ?_) ?_ ?_
              rotate_left
              ·
               show Act.put _ (some 110) _ = _
               simp only [Act.put, List.setIfInBounds_toArray, List.set_cons_zero, List.set_cons_succ, i64_w, i32_w]
               rfl
              refine pure_ (i := 14) (N := some 96) (v := ?_) (a' := ?_) #[true, true, true, true, true, true, true, true, true, true, true, true, true, true, true, false, false, true, false, false] rfl rfl (any_of HT_.out (by kernel_rfl)) (fun _ _ _ h => h) (Or.inl ⟨by rfl, ?_⟩) ?_ ?_
              rotate_left
              ·
               intro w'
               go_simp
               with_reducible rfl
              rotate_left
              ·
               simp only [Act.put, List.setIfInBounds_toArray, List.set_cons_zero, List.set_cons_succ, i64_w, i32_w]
               rfl
              refine pure_ (i := 15) (N := some 111) (v := ?_) (a' := ?_) #[true, true, true, true, true, true, true, true, true, true, true, true, true, true, true, true, false, true, false, false] rfl rfl (any_of HT_.out (by kernel_rfl)) (fun _ _ _ h => h) (Or.inl ⟨by rfl, ?_⟩) ?_ ?_
              rotate_left
              ·
               intro w'
               go_simp
               with_reducible rfl
              rotate_left
              ·
               simp only [Act.put, List.setIfInBounds_toArray, List.set_cons_zero, List.set_cons_succ, i64_w, i32_w]
               rfl
              refine pure_ (i := 16) (N := some 112) (v := ?_) (a' := ?_) #[true, true, true, true, true, true, true, true, true, true, true, true, true, true, true, true, true, true, false, false] rfl rfl (any_of HT_.out (by kernel_rfl)) (fun _ _ _ h => h) (Or.inl ⟨by rfl, ?_⟩) ?_ ?_
              rotate_left
              ·
               intro w'
               go_simp
               with_reducible rfl
              rotate_left
              ·
               simp only [Act.put, List.setIfInBounds_toArray, List.set_cons_zero, List.set_cons_succ, i64_w, i32_w]
               rfl
              exact norm_ (by simp only [putAll, Act.put, List.setIfInBounds_toArray, List.set_cons_zero, List.set_cons_succ]) (hCont (gb254) _ ⟨hHeld, (by (with_reducible repeat (first | apply Kd.V_alloc | apply Kd.V_drewN | apply Kd.V_drew)); exact Kd.V_mono HO_233000.out (fun _ hk => ⟨hk.1.1, ⟨hk.1.2.1, ⟨hk.1.2.2.1, ⟨hk.1.2.2.2.1, ⟨hk.1.2.2.2.2, hk.2⟩⟩⟩⟩⟩)), (by (with_reducible repeat (first | apply Kd.V_alloc | apply Kd.V_drewN | apply Kd.V_drew)); exact Kd.V_mono HO_233001.out (fun _ hk => ⟨hk.1.1, ⟨hk.1.2.1, ⟨hk.1.2.2.1, ⟨hk.1.2.2.2.1, ⟨hk.1.2.2.2.2, hk.2⟩⟩⟩⟩⟩)), (bk BK218.out), (bk BK232.out), (bk BK233.out), (bk BK240.out), (bk BK246.out), (bk BK254.out), GW254.out, GE254.out, NB218_254.out, NB254_218.out, NB232_254.out, NB254_232.out, NB233_254.out, NB254_233.out, NB240_254.out, NB254_240.out, NB246_254.out, NB254_246.out, (by repeat (first | (with_reducible first | exact HB.out | apply bA | apply bN | apply bD | refine bS ?_ ‹_›) | exact HB.out))⟩)
            rintro gb254 w101 ⟨hS_, h0_, h1_, h2_, h3_, h4_, h5_, h6_, h7_, h8_, h9_, h10_, h11_, h12_, h13_, h14_, h15_, h16_, h17_, h18_, h19_, h20_⟩
            have n0_ : Aside0 (Kd.V (Kd.int .i64) 3 w101 w.heap.size (fun k_ => k_ ≠ gb218 ∧ k_ ≠ gb232 ∧ k_ ≠ gb233 ∧ k_ ≠ gb240 ∧ k_ ≠ gb246 ∧ k_ ≠ gb254) (.slice Ao19 t221.length co19) t221) := ⟨h0_⟩
            have n1_ : Aside0 (Kd.V k29 29 w101 w.heap.size (fun k_ => k_ ≠ gb218 ∧ k_ ≠ gb232 ∧ k_ ≠ gb233 ∧ k_ ≠ gb240 ∧ k_ ≠ gb246 ∧ k_ ≠ gb254) (.slice Ao23 t224.length co23) t224) := ⟨h1_⟩
            have n2_ : Aside0 (w101.heap[gb218]? = some (.cells #[.slice A0_0 l0_0.length c0_0, .slice (some ad247) l0_1.length c0_1] 25 (0, 0))) := ⟨h2_⟩
            have n3_ : Aside0 (w101.heap[gb232]? = some (.cells #[.slice Ao19 t221.length co19, .slice Ao23 t224.length co23] 25 (0, 0))) := ⟨h3_⟩
            have n4_ : Aside0 (w101.heap[gb233]? = some (.cells #[.int .i64 t227, .int .i64 t228, .int .i64 t229, .int .i64 t230] 29 (0, 0))) := ⟨h4_⟩
            have n5_ : Aside0 (w101.heap[gb240]? = some (.cells #[.int .i64 t235, .int .i64 t236, .int .i64 t237, .int .i64 t238] 29 (0, 0))) := ⟨h5_⟩
            have n6_ : Aside0 (w101.heap[gb246]? = some (.cells #[.int .i64 t241, .int .i64 t242, .int .i64 t243, .int .i64 t244] 29 (0, 0))) := ⟨h6_⟩
            have n7_ : Aside0 (w101.heap[gb254]? = some (.cells #[.int .i64 0, .int .i64 0, .int .i64 0, .int .i64 0] 29 (0, 0))) := ⟨h7_⟩
            have n8_ : Aside0 (w.heap.size ≤ gb254) := ⟨h8_⟩
            have n9_ : Aside0 (w.heap.size ≤ gb254) := ⟨h9_⟩
            have n10_ : Aside0 (gb218 ≠ gb254) := ⟨h10_⟩
            have n11_ : Aside0 (gb254 ≠ gb218) := ⟨h11_⟩
            have n12_ : Aside0 (gb232 ≠ gb254) := ⟨h12_⟩
            have n13_ : Aside0 (gb254 ≠ gb232) := ⟨h13_⟩
            have n14_ : Aside0 (gb233 ≠ gb254) := ⟨h14_⟩
            have n15_ : Aside0 (gb254 ≠ gb233) := ⟨h15_⟩
            have n16_ : Aside0 (gb240 ≠ gb254) := ⟨h16_⟩
            have n17_ : Aside0 (gb254 ≠ gb240) := ⟨h17_⟩
            have n18_ : Aside0 (gb246 ≠ gb254) := ⟨h18_⟩
            have n19_ : Aside0 (gb254 ≠ gb246) := ⟨h19_⟩
            have n20_ : Aside0 (Below w.heap.size w w101) := ⟨h20_⟩
            clear HO_233000
            clear HO_233001
            clear BK218
            clear BK232
            clear BK233
            clear BK240
            clear BK246
            clear HB
            clear h0_ h1_ h2_ h3_ h4_ h5_ h6_ h7_ h8_ h9_ h10_ h11_ h12_ h13_ h14_ h15_ h16_ h17_ h18_ h19_ h20_
            have HO_233000 := n0_
            have HO_233001 := n1_
            have BK218 := n2_
            have BK232 := n3_
            have BK233 := n4_
            have BK240 := n5_
            have BK246 := n6_
            have BK254 := n7_
            have GW254 := n8_
            have GE254 := n9_
            have NB218_254 := n10_
            have NB254_218 := n11_
            have NB232_254 := n12_
            have NB254_232 := n13_
            have NB233_254 := n14_
            have NB254_233 := n15_
            have NB240_254 := n16_
            have NB254_240 := n17_
            have NB246_254 := n18_
            have NB254_246 := n19_
            have HB := n20_
            clear n0_ n1_ n2_ n3_ n4_ n5_ n6_ n7_ n8_ n9_ n10_ n11_ n12_ n13_ n14_ n15_ n16_ n17_ n18_ n19_ n20_
            have hHeld : w101.cell? ⟨gb232, 0, none⟩ = some (.slice Ao19 t221.length co19) ∧ w101.cell? ⟨gb232, 1, none⟩ = some (.slice Ao23 t224.length co23) ∧ w101.cell? ⟨gb218, 0, none⟩ = some (.slice A0_0 l0_0.length c0_0) ∧ w101.cell? ⟨gb218, 1, none⟩ = some (.slice (some ad247) l0_1.length c0_1) ∧ w101.cell? (ad247.add ((x14_2).toNat * 4)) = some (.int .i64 ((rd_T29 l0_1 x14_2).f0)) ∧ w101.cell? ⟨(ad247.add ((x14_2).toNat * 4)).block, (ad247.add ((x14_2).toNat * 4)).off + 1, none⟩ = some (.int .i64 ((rd_T29 l0_1 x14_2).f1)) ∧ w101.cell? ⟨(ad247.add ((x14_2).toNat * 4)).block, (ad247.add ((x14_2).toNat * 4)).off + 2, none⟩ = some (.int .i64 ((rd_T29 l0_1 x14_2).f2)) ∧ w101.cell? ⟨(ad247.add ((x14_2).toNat * 4)).block, (ad247.add ((x14_2).toNat * 4)).off + 3, none⟩ = some (.int .i64 ((rd_T29 l0_1 x14_2).f3)) ∧ w101.cell? (ad247.add ((x14_2).toNat * 4)) = some (.int .i64 ((rd_T29 l0_1 x14_2).f0)) ∧ w101.cell? ⟨(ad247.add ((x14_2).toNat * 4)).block, (ad247.add ((x14_2).toNat * 4)).off + 1, none⟩ = some (.int .i64 ((rd_T29 l0_1 x14_2).f1)) ∧ w101.cell? ⟨(ad247.add ((x14_2).toNat * 4)).block, (ad247.add ((x14_2).toNat * 4)).off + 2, none⟩ = some (.int .i64 ((rd_T29 l0_1 x14_2).f2)) ∧ w101.cell? ⟨(ad247.add ((x14_2).toNat * 4)).block, (ad247.add ((x14_2).toNat * 4)).off + 3, none⟩ = some (.int .i64 ((rd_T29 l0_1 x14_2).f3)) := hS_
            refine norm_ (a' := ?_) ?_ ?_
            rotate_left
            ·
             simp only [putAll, Act.put, List.setIfInBounds_toArray, List.set_cons_zero, List.set_cons_succ]
             rfl
            refine one_ (i := 18) (N := none) #[true, true, true, true, true, true, true, true, true, true, true, true, true, true, true, true, true, true, true, false] rfl rfl (one_of HT_.out (by kernel_rfl)) (by decide) (fun K hK => ?_)
            have hs102 : w101.cell? ⟨gb254, 0, none⟩ = some (.int .i64 0) := (blk_cell BK254.out 0).trans rfl
            have hfs102 := blk_frozen BK254.out 0
            have hns102_0 := NB218_254.out
            have hns102_1 := NB232_254.out
            have hns102_2 := NB233_254.out
            have hns102_3 := NB240_254.out
            have hns102_4 := NB246_254.out
            have hms102_0 := NB254_218.out
            have hms102_1 := NB254_232.out
            have hms102_2 := NB254_233.out
            have hms102_3 := NB254_240.out
            have hms102_4 := NB254_246.out
            have hs103 : w101.cell? ⟨gb254, 1, none⟩ = some (.int .i64 0) := (blk_cell BK254.out 1).trans rfl
            have hfs103 := blk_frozen BK254.out 1
            have hns103_0 := NB218_254.out
            have hns103_1 := NB232_254.out
            have hns103_2 := NB233_254.out
            have hns103_3 := NB240_254.out
            have hns103_4 := NB246_254.out
            have hms103_0 := NB254_218.out
            have hms103_1 := NB254_232.out
            have hms103_2 := NB254_233.out
            have hms103_3 := NB254_240.out
            have hms103_4 := NB254_246.out
            have hs104 : w101.cell? ⟨gb254, 2, none⟩ = some (.int .i64 0) := (blk_cell BK254.out 2).trans rfl
            have hfs104 := blk_frozen BK254.out 2
            have hns104_0 := NB218_254.out
            have hns104_1 := NB232_254.out
            have hns104_2 := NB233_254.out
            have hns104_3 := NB240_254.out
            have hns104_4 := NB246_254.out
            have hms104_0 := NB254_218.out
            have hms104_1 := NB254_232.out
            have hms104_2 := NB254_233.out
            have hms104_3 := NB254_240.out
            have hms104_4 := NB254_246.out
            have hs105 : w101.cell? ⟨gb254, 3, none⟩ = some (.int .i64 0) := (blk_cell BK254.out 3).trans rfl
            have hfs105 := blk_frozen BK254.out 3
            have hns105_0 := NB218_254.out
            have hns105_1 := NB232_254.out
            have hns105_2 := NB233_254.out
            have hns105_3 := NB240_254.out
            have hns105_4 := NB246_254.out
            have hms105_0 := NB254_218.out
            have hms105_1 := NB254_232.out
            have hms105_2 := NB254_233.out
            have hms105_3 := NB254_240.out
            have hms105_4 := NB254_246.out
            refine skip_ (w1 := ?_) (by rfl) rfl ?_ ?_
            rotate_left
            ·
             go_simp
             rfl
            refine hK.out _ _ ⟨((cell_far (p := ⟨gb254, _, none⟩) NB232_254.out _).trans (((cell_far (p := ⟨gb254, _, none⟩) NB232_254.out _).trans (((cell_far (p := ⟨gb254, _, none⟩) NB232_254.out _).trans (((cell_far (p := ⟨gb254, _, none⟩) NB232_254.out _).trans (hHeld.1)))))))), ((cell_far (p := ⟨gb254, _, none⟩) NB232_254.out _).trans (((cell_far (p := ⟨gb254, _, none⟩) NB232_254.out _).trans (((cell_far (p := ⟨gb254, _, none⟩) NB232_254.out _).trans (((cell_far (p := ⟨gb254, _, none⟩) NB232_254.out _).trans (hHeld.2.1)))))))), ((cell_far (p := ⟨gb254, _, none⟩) NB218_254.out _).trans (((cell_far (p := ⟨gb254, _, none⟩) NB218_254.out _).trans (((cell_far (p := ⟨gb254, _, none⟩) NB218_254.out _).trans (((cell_far (p := ⟨gb254, _, none⟩) NB218_254.out _).trans (hHeld.2.2.1)))))))), ((cell_far (p := ⟨gb254, _, none⟩) NB218_254.out _).trans (((cell_far (p := ⟨gb254, _, none⟩) NB218_254.out _).trans (((cell_far (p := ⟨gb254, _, none⟩) NB218_254.out _).trans (((cell_far (p := ⟨gb254, _, none⟩) NB218_254.out _).trans (hHeld.2.2.2.1)))))))), ((cell_far (p := ⟨gb254, _, none⟩) (by first | exact Nat.ne_of_lt (Nat.lt_of_lt_of_le (by have := World.block_lt_of_cell? _ _ hw247_0; first | rwa [add_block] at this | exact this) GW254.out) | (rw [add_block]; exact Nat.ne_of_lt (Nat.lt_of_lt_of_le (by have := World.block_lt_of_cell? _ _ hw247_0; first | rwa [add_block] at this | exact this) GW254.out)) | (show (Addr.add _ _).block ≠ _; rw [add_block]; exact Nat.ne_of_lt (Nat.lt_of_lt_of_le (by have := World.block_lt_of_cell? _ _ hw247_0; first | rwa [add_block] at this | exact this) GW254.out)) | (dsimp only; exact Nat.ne_of_lt (Nat.lt_of_lt_of_le (by have := World.block_lt_of_cell? _ _ hw247_0; first | rwa [add_block] at this | exact this) GW254.out))) _).trans (((cell_far (p := ⟨gb254, _, none⟩) (by first | exact Nat.ne_of_lt (Nat.lt_of_lt_of_le (by have := World.block_lt_of_cell? _ _ hw247_0; first | rwa [add_block] at this | exact this) GW254.out) | (rw [add_block]; exact Nat.ne_of_lt (Nat.lt_of_lt_of_le (by have := World.block_lt_of_cell? _ _ hw247_0; first | rwa [add_block] at this | exact this) GW254.out)) | (show (Addr.add _ _).block ≠ _; rw [add_block]; exact Nat.ne_of_lt (Nat.lt_of_lt_of_le (by have := World.block_lt_of_cell? _ _ hw247_0; first | rwa [add_block] at this | exact this) GW254.out)) | (dsimp only; exact Nat.ne_of_lt (Nat.lt_of_lt_of_le (by have := World.block_lt_of_cell? _ _ hw247_0; first | rwa [add_block] at this | exact this) GW254.out))) _).trans (((cell_far (p := ⟨gb254, _, none⟩) (by first | exact Nat.ne_of_lt (Nat.lt_of_lt_of_le (by have := World.block_lt_of_cell? _ _ hw247_0; first | rwa [add_block] at this | exact this) GW254.out) | (rw [add_block]; exact Nat.ne_of_lt (Nat.lt_of_lt_of_le (by have := World.block_lt_of_cell? _ _ hw247_0; first | rwa [add_block] at this | exact this) GW254.out)) | (show (Addr.add _ _).block ≠ _; rw [add_block]; exact Nat.ne_of_lt (Nat.lt_of_lt_of_le (by have := World.block_lt_of_cell? _ _ hw247_0; first | rwa [add_block] at this | exact this) GW254.out)) | (dsimp only; exact Nat.ne_of_lt (Nat.lt_of_lt_of_le (by have := World.block_lt_of_cell? _ _ hw247_0; first | rwa [add_block] at this | exact this) GW254.out))) _).trans (((cell_far (p := ⟨gb254, _, none⟩) (by first | exact Nat.ne_of_lt (Nat.lt_of_lt_of_le (by have := World.block_lt_of_cell? _ _ hw247_0; first | rwa [add_block] at this | exact this) GW254.out) | (rw [add_block]; exact Nat.ne_of_lt (Nat.lt_of_lt_of_le (by have := World.block_lt_of_cell? _ _ hw247_0; first | rwa [add_block] at this | exact this) GW254.out)) | (show (Addr.add _ _).block ≠ _; rw [add_block]; exact Nat.ne_of_lt (Nat.lt_of_lt_of_le (by have := World.block_lt_of_cell? _ _ hw247_0; first | rwa [add_block] at this | exact this) GW254.out)) | (dsimp only; exact Nat.ne_of_lt (Nat.lt_of_lt_of_le (by have := World.block_lt_of_cell? _ _ hw247_0; first | rwa [add_block] at this | exact this) GW254.out))) _).trans (hHeld.2.2.2.2.1)))))))), ((cell_far (p := ⟨gb254, _, none⟩) (by first | exact Nat.ne_of_lt (Nat.lt_of_lt_of_le (by have := World.block_lt_of_cell? _ _ hw247_1; first | rwa [add_block] at this | exact this) GW254.out) | (rw [add_block]; exact Nat.ne_of_lt (Nat.lt_of_lt_of_le (by have := World.block_lt_of_cell? _ _ hw247_1; first | rwa [add_block] at this | exact this) GW254.out)) | (show (Addr.add _ _).block ≠ _; rw [add_block]; exact Nat.ne_of_lt (Nat.lt_of_lt_of_le (by have := World.block_lt_of_cell? _ _ hw247_1; first | rwa [add_block] at this | exact this) GW254.out)) | (dsimp only; exact Nat.ne_of_lt (Nat.lt_of_lt_of_le (by have := World.block_lt_of_cell? _ _ hw247_1; first | rwa [add_block] at this | exact this) GW254.out))) _).trans (((cell_far (p := ⟨gb254, _, none⟩) (by first | exact Nat.ne_of_lt (Nat.lt_of_lt_of_le (by have := World.block_lt_of_cell? _ _ hw247_1; first | rwa [add_block] at this | exact this) GW254.out) | (rw [add_block]; exact Nat.ne_of_lt (Nat.lt_of_lt_of_le (by have := World.block_lt_of_cell? _ _ hw247_1; first | rwa [add_block] at this | exact this) GW254.out)) | (show (Addr.add _ _).block ≠ _; rw [add_block]; exact Nat.ne_of_lt (Nat.lt_of_lt_of_le (by have := World.block_lt_of_cell? _ _ hw247_1; first | rwa [add_block] at this | exact this) GW254.out)) | (dsimp only; exact Nat.ne_of_lt (Nat.lt_of_lt_of_le (by have := World.block_lt_of_cell? _ _ hw247_1; first | rwa [add_block] at this | exact this) GW254.out))) _).trans (((cell_far (p := ⟨gb254, _, none⟩) (by first | exact Nat.ne_of_lt (Nat.lt_of_lt_of_le (by have := World.block_lt_of_cell? _ _ hw247_1; first | rwa [add_block] at this | exact this) GW254.out) | (rw [add_block]; exact Nat.ne_of_lt (Nat.lt_of_lt_of_le (by have := World.block_lt_of_cell? _ _ hw247_1; first | rwa [add_block] at this | exact this) GW254.out)) | (show (Addr.add _ _).block ≠ _; rw [add_block]; exact Nat.ne_of_lt (Nat.lt_of_lt_of_le (by have := World.block_lt_of_cell? _ _ hw247_1; first | rwa [add_block] at this | exact this) GW254.out)) | (dsimp only; exact Nat.ne_of_lt (Nat.lt_of_lt_of_le (by have := World.block_lt_of_cell? _ _ hw247_1; first | rwa [add_block] at this | exact this) GW254.out))) _).trans (((cell_far (p := ⟨gb254, _, none⟩) (by first | exact Nat.ne_of_lt (Nat.lt_of_lt_of_le (by have := World.block_lt_of_cell? _ _ hw247_1; first | rwa [add_block] at this | exact this) GW254.out) | (rw [add_block]; exact Nat.ne_of_lt (Nat.lt_of_lt_of_le (by have := World.block_lt_of_cell? _ _ hw247_1; first | rwa [add_block] at this | exact this) GW254.out)) | (show (Addr.add _ _).block ≠ _; rw [add_block]; exact Nat.ne_of_lt (Nat.lt_of_lt_of_le (by have := World.block_lt_of_cell? _ _ hw247_1; first | rwa [add_block] at this | exact this) GW254.out)) | (dsimp only; exact Nat.ne_of_lt (Nat.lt_of_lt_of_le (by have := World.block_lt_of_cell? _ _ hw247_1; first | rwa [add_block] at this | exact this) GW254.out))) _).trans (hHeld.2.2.2.2.2.1)))))))), ((cell_far (p := ⟨gb254, _, none⟩) (by first | exact Nat.ne_of_lt (Nat.lt_of_lt_of_le (by have := World.block_lt_of_cell? _ _ hw247_2; first | rwa [add_block] at this | exact this) GW254.out) | (rw [add_block]; exact Nat.ne_of_lt (Nat.lt_of_lt_of_le (by have := World.block_lt_of_cell? _ _ hw247_2; first | rwa [add_block] at this | exact this) GW254.out)) | (show (Addr.add _ _).block ≠ _; rw [add_block]; exact Nat.ne_of_lt (Nat.lt_of_lt_of_le (by have := World.block_lt_of_cell? _ _ hw247_2; first | rwa [add_block] at this | exact this) GW254.out)) | (dsimp only; exact Nat.ne_of_lt (Nat.lt_of_lt_of_le (by have := World.block_lt_of_cell? _ _ hw247_2; first | rwa [add_block] at this | exact this) GW254.out))) _).trans (((cell_far (p := ⟨gb254, _, none⟩) (by first | exact Nat.ne_of_lt (Nat.lt_of_lt_of_le (by have := World.block_lt_of_cell? _ _ hw247_2; first | rwa [add_block] at this | exact this) GW254.out) | (rw [add_block]; exact Nat.ne_of_lt (Nat.lt_of_lt_of_le (by have := World.block_lt_of_cell? _ _ hw247_2; first | rwa [add_block] at this | exact this) GW254.out)) | (show (Addr.add _ _).block ≠ _; rw [add_block]; exact Nat.ne_of_lt (Nat.lt_of_lt_of_le (by have := World.block_lt_of_cell? _ _ hw247_2; first | rwa [add_block] at this | exact this) GW254.out)) | (dsimp only; exact Nat.ne_of_lt (Nat.lt_of_lt_of_le (by have := World.block_lt_of_cell? _ _ hw247_2; first | rwa [add_block] at this | exact this) GW254.out))) _).trans (((cell_far (p := ⟨gb254, _, none⟩) (by first | exact Nat.ne_of_lt (Nat.lt_of_lt_of_le (by have := World.block_lt_of_cell? _ _ hw247_2; first | rwa [add_block] at this | exact this) GW254.out) | (rw [add_block]; exact Nat.ne_of_lt (Nat.lt_of_lt_of_le (by have := World.block_lt_of_cell? _ _ hw247_2; first | rwa [add_block] at this | exact this) GW254.out)) | (show (Addr.add _ _).block ≠ _; rw [add_block]; exact Nat.ne_of_lt (Nat.lt_of_lt_of_le (by have := World.block_lt_of_cell? _ _ hw247_2; first | rwa [add_block] at this | exact this) GW254.out)) | (dsimp only; exact Nat.ne_of_lt (Nat.lt_of_lt_of_le (by have := World.block_lt_of_cell? _ _ hw247_2; first | rwa [add_block] at this | exact this) GW254.out))) _).trans (((cell_far (p := ⟨gb254, _, none⟩) (by first | exact Nat.ne_of_lt (Nat.lt_of_lt_of_le (by have := World.block_lt_of_cell? _ _ hw247_2; first | rwa [add_block] at this | exact this) GW254.out) | (rw [add_block]; exact Nat.ne_of_lt (Nat.lt_of_lt_of_le (by have := World.block_lt_of_cell? _ _ hw247_2; first | rwa [add_block] at this | exact this) GW254.out)) | (show (Addr.add _ _).block ≠ _; rw [add_block]; exact Nat.ne_of_lt (Nat.lt_of_lt_of_le (by have := World.block_lt_of_cell? _ _ hw247_2; first | rwa [add_block] at this | exact this) GW254.out)) | (dsimp only; exact Nat.ne_of_lt (Nat.lt_of_lt_of_le (by have := World.block_lt_of_cell? _ _ hw247_2; first | rwa [add_block] at this | exact this) GW254.out))) _).trans (hHeld.2.2.2.2.2.2.1)))))))), ((cell_far (p := ⟨gb254, _, none⟩) (by first | exact Nat.ne_of_lt (Nat.lt_of_lt_of_le (by have := World.block_lt_of_cell? _ _ hw247_3; first | rwa [add_block] at this | exact this) GW254.out) | (rw [add_block]; exact Nat.ne_of_lt (Nat.lt_of_lt_of_le (by have := World.block_lt_of_cell? _ _ hw247_3; first | rwa [add_block] at this | exact this) GW254.out)) | (show (Addr.add _ _).block ≠ _; rw [add_block]; exact Nat.ne_of_lt (Nat.lt_of_lt_of_le (by have := World.block_lt_of_cell? _ _ hw247_3; first | rwa [add_block] at this | exact this) GW254.out)) | (dsimp only; exact Nat.ne_of_lt (Nat.lt_of_lt_of_le (by have := World.block_lt_of_cell? _ _ hw247_3; first | rwa [add_block] at this | exact this) GW254.out))) _).trans (((cell_far (p := ⟨gb254, _, none⟩) (by first | exact Nat.ne_of_lt (Nat.lt_of_lt_of_le (by have := World.block_lt_of_cell? _ _ hw247_3; first | rwa [add_block] at this | exact this) GW254.out) | (rw [add_block]; exact Nat.ne_of_lt (Nat.lt_of_lt_of_le (by have := World.block_lt_of_cell? _ _ hw247_3; first | rwa [add_block] at this | exact this) GW254.out)) | (show (Addr.add _ _).block ≠ _; rw [add_block]; exact Nat.ne_of_lt (Nat.lt_of_lt_of_le (by have := World.block_lt_of_cell? _ _ hw247_3; first | rwa [add_block] at this | exact this) GW254.out)) | (dsimp only; exact Nat.ne_of_lt (Nat.lt_of_lt_of_le (by have := World.block_lt_of_cell? _ _ hw247_3; first | rwa [add_block] at this | exact this) GW254.out))) _).trans (((cell_far (p := ⟨gb254, _, none⟩) (by first | exact Nat.ne_of_lt (Nat.lt_of_lt_of_le (by have := World.block_lt_of_cell? _ _ hw247_3; first | rwa [add_block] at this | exact this) GW254.out) | (rw [add_block]; exact Nat.ne_of_lt (Nat.lt_of_lt_of_le (by have := World.block_lt_of_cell? _ _ hw247_3; first | rwa [add_block] at this | exact this) GW254.out)) | (show (Addr.add _ _).block ≠ _; rw [add_block]; exact Nat.ne_of_lt (Nat.lt_of_lt_of_le (by have := World.block_lt_of_cell? _ _ hw247_3; first | rwa [add_block] at this | exact this) GW254.out)) | (dsimp only; exact Nat.ne_of_lt (Nat.lt_of_lt_of_le (by have := World.block_lt_of_cell? _ _ hw247_3; first | rwa [add_block] at this | exact this) GW254.out))) _).trans (((cell_far (p := ⟨gb254, _, none⟩) (by first | exact Nat.ne_of_lt (Nat.lt_of_lt_of_le (by have := World.block_lt_of_cell? _ _ hw247_3; first | rwa [add_block] at this | exact this) GW254.out) | (rw [add_block]; exact Nat.ne_of_lt (Nat.lt_of_lt_of_le (by have := World.block_lt_of_cell? _ _ hw247_3; first | rwa [add_block] at this | exact this) GW254.out)) | (show (Addr.add _ _).block ≠ _; rw [add_block]; exact Nat.ne_of_lt (Nat.lt_of_lt_of_le (by have := World.block_lt_of_cell? _ _ hw247_3; first | rwa [add_block] at this | exact this) GW254.out)) | (dsimp only; exact Nat.ne_of_lt (Nat.lt_of_lt_of_le (by have := World.block_lt_of_cell? _ _ hw247_3; first | rwa [add_block] at this | exact this) GW254.out))) _).trans (hHeld.2.2.2.2.2.2.2.1)))))))), ((cell_far (p := ⟨gb254, _, none⟩) (by first | exact Nat.ne_of_lt (Nat.lt_of_lt_of_le (by have := World.block_lt_of_cell? _ _ hw248_0; first | rwa [add_block] at this | exact this) GW254.out) | (rw [add_block]; exact Nat.ne_of_lt (Nat.lt_of_lt_of_le (by have := World.block_lt_of_cell? _ _ hw248_0; first | rwa [add_block] at this | exact this) GW254.out)) | (show (Addr.add _ _).block ≠ _; rw [add_block]; exact Nat.ne_of_lt (Nat.lt_of_lt_of_le (by have := World.block_lt_of_cell? _ _ hw248_0; first | rwa [add_block] at this | exact this) GW254.out)) | (dsimp only; exact Nat.ne_of_lt (Nat.lt_of_lt_of_le (by have := World.block_lt_of_cell? _ _ hw248_0; first | rwa [add_block] at this | exact this) GW254.out))) _).trans (((cell_far (p := ⟨gb254, _, none⟩) (by first | exact Nat.ne_of_lt (Nat.lt_of_lt_of_le (by have := World.block_lt_of_cell? _ _ hw248_0; first | rwa [add_block] at this | exact this) GW254.out) | (rw [add_block]; exact Nat.ne_of_lt (Nat.lt_of_lt_of_le (by have := World.block_lt_of_cell? _ _ hw248_0; first | rwa [add_block] at this | exact this) GW254.out)) | (show (Addr.add _ _).block ≠ _; rw [add_block]; exact Nat.ne_of_lt (Nat.lt_of_lt_of_le (by have := World.block_lt_of_cell? _ _ hw248_0; first | rwa [add_block] at this | exact this) GW254.out)) | (dsimp only; exact Nat.ne_of_lt (Nat.lt_of_lt_of_le (by have := World.block_lt_of_cell? _ _ hw248_0; first | rwa [add_block] at this | exact this) GW254.out))) _).trans (((cell_far (p := ⟨gb254, _, none⟩) (by first | exact Nat.ne_of_lt (Nat.lt_of_lt_of_le (by have := World.block_lt_of_cell? _ _ hw248_0; first | rwa [add_block] at this | exact this) GW254.out) | (rw [add_block]; exact Nat.ne_of_lt (Nat.lt_of_lt_of_le (by have := World.block_lt_of_cell? _ _ hw248_0; first | rwa [add_block] at this | exact this) GW254.out)) | (show (Addr.add _ _).block ≠ _; rw [add_block]; exact Nat.ne_of_lt (Nat.lt_of_lt_of_le (by have := World.block_lt_of_cell? _ _ hw248_0; first | rwa [add_block] at this | exact this) GW254.out)) | (dsimp only; exact Nat.ne_of_lt (Nat.lt_of_lt_of_le (by have := World.block_lt_of_cell? _ _ hw248_0; first | rwa [add_block] at this | exact this) GW254.out))) _).trans (((cell_far (p := ⟨gb254, _, none⟩) (by first | exact Nat.ne_of_lt (Nat.lt_of_lt_of_le (by have := World.block_lt_of_cell? _ _ hw248_0; first | rwa [add_block] at this | exact this) GW254.out) | (rw [add_block]; exact Nat.ne_of_lt (Nat.lt_of_lt_of_le (by have := World.block_lt_of_cell? _ _ hw248_0; first | rwa [add_block] at this | exact this) GW254.out)) | (show (Addr.add _ _).block ≠ _; rw [add_block]; exact Nat.ne_of_lt (Nat.lt_of_lt_of_le (by have := World.block_lt_of_cell? _ _ hw248_0; first | rwa [add_block] at this | exact this) GW254.out)) | (dsimp only; exact Nat.ne_of_lt (Nat.lt_of_lt_of_le (by have := World.block_lt_of_cell? _ _ hw248_0; first | rwa [add_block] at this | exact this) GW254.out))) _).trans (hHeld.2.2.2.2.2.2.2.2.1)))))))), ((cell_far (p := ⟨gb254, _, none⟩) (by first | exact Nat.ne_of_lt (Nat.lt_of_lt_of_le (by have := World.block_lt_of_cell? _ _ hw248_1; first | rwa [add_block] at this | exact this) GW254.out) | (rw [add_block]; exact Nat.ne_of_lt (Nat.lt_of_lt_of_le (by have := World.block_lt_of_cell? _ _ hw248_1; first | rwa [add_block] at this | exact this) GW254.out)) | (show (Addr.add _ _).block ≠ _; rw [add_block]; exact Nat.ne_of_lt (Nat.lt_of_lt_of_le (by have := World.block_lt_of_cell? _ _ hw248_1; first | rwa [add_block] at this | exact this) GW254.out)) | (dsimp only; exact Nat.ne_of_lt (Nat.lt_of_lt_of_le (by have := World.block_lt_of_cell? _ _ hw248_1; first | rwa [add_block] at this | exact this) GW254.out))) _).trans (((cell_far (p := ⟨gb254, _, none⟩) (by first | exact Nat.ne_of_lt (Nat.lt_of_lt_of_le (by have := World.block_lt_of_cell? _ _ hw248_1; first | rwa [add_block] at this | exact this) GW254.out) | (rw [add_block]; exact Nat.ne_of_lt (Nat.lt_of_lt_of_le (by have := World.block_lt_of_cell? _ _ hw248_1; first | rwa [add_block] at this | exact this) GW254.out)) | (show (Addr.add _ _).block ≠ _; rw [add_block]; exact Nat.ne_of_lt (Nat.lt_of_lt_of_le (by have := World.block_lt_of_cell? _ _ hw248_1; first | rwa [add_block] at this | exact this) GW254.out)) | (dsimp only; exact Nat.ne_of_lt (Nat.lt_of_lt_of_le (by have := World.block_lt_of_cell? _ _ hw248_1; first | rwa [add_block] at this | exact this) GW254.out))) _).trans (((cell_far (p := ⟨gb254, _, none⟩) (by first | exact Nat.ne_of_lt (Nat.lt_of_lt_of_le (by have := World.block_lt_of_cell? _ _ hw248_1; first | rwa [add_block] at this | exact this) GW254.out) | (rw [add_block]; exact Nat.ne_of_lt (Nat.lt_of_lt_of_le (by have := World.block_lt_of_cell? _ _ hw248_1; first | rwa [add_block] at this | exact this) GW254.out)) | (show (Addr.add _ _).block ≠ _; rw [add_block]; exact Nat.ne_of_lt (Nat.lt_of_lt_of_le (by have := World.block_lt_of_cell? _ _ hw248_1; first | rwa [add_block] at this | exact this) GW254.out)) | (dsimp only; exact Nat.ne_of_lt (Nat.lt_of_lt_of_le (by have := World.block_lt_of_cell? _ _ hw248_1; first | rwa [add_block] at this | exact this) GW254.out))) _).trans (((cell_far (p := ⟨gb254, _, none⟩) (by first | exact Nat.ne_of_lt (Nat.lt_of_lt_of_le (by have := World.block_lt_of_cell? _ _ hw248_1; first | rwa [add_block] at this | exact this) GW254.out) | (rw [add_block]; exact Nat.ne_of_lt (Nat.lt_of_lt_of_le (by have := World.block_lt_of_cell? _ _ hw248_1; first | rwa [add_block] at this | exact this) GW254.out)) | (show (Addr.add _ _).block ≠ _; rw [add_block]; exact Nat.ne_of_lt (Nat.lt_of_lt_of_le (by have := World.block_lt_of_cell? _ _ hw248_1; first | rwa [add_block] at this | exact this) GW254.out)) | (dsimp only; exact Nat.ne_of_lt (Nat.lt_of_lt_of_le (by have := World.block_lt_of_cell? _ _ hw248_1; first | rwa [add_block] at this | exact this) GW254.out))) _).trans (hHeld.2.2.2.2.2.2.2.2.2.1)))))))), ((cell_far (p := ⟨gb254, _, none⟩) (by first | exact Nat.ne_of_lt (Nat.lt_of_lt_of_le (by have := World.block_lt_of_cell? _ _ hw248_2; first | rwa [add_block] at this | exact this) GW254.out) | (rw [add_block]; exact Nat.ne_of_lt (Nat.lt_of_lt_of_le (by have := World.block_lt_of_cell? _ _ hw248_2; first | rwa [add_block] at this | exact this) GW254.out)) | (show (Addr.add _ _).block ≠ _; rw [add_block]; exact Nat.ne_of_lt (Nat.lt_of_lt_of_le (by have := World.block_lt_of_cell? _ _ hw248_2; first | rwa [add_block] at this | exact this) GW254.out)) | (dsimp only; exact Nat.ne_of_lt (Nat.lt_of_lt_of_le (by have := World.block_lt_of_cell? _ _ hw248_2; first | rwa [add_block] at this | exact this) GW254.out))) _).trans (((cell_far (p := ⟨gb254, _, none⟩) (by first | exact Nat.ne_of_lt (Nat.lt_of_lt_of_le (by have := World.block_lt_of_cell? _ _ hw248_2; first | rwa [add_block] at this | exact this) GW254.out) | (rw [add_block]; exact Nat.ne_of_lt (Nat.lt_of_lt_of_le (by have := World.block_lt_of_cell? _ _ hw248_2; first | rwa [add_block] at this | exact this) GW254.out)) | (show (Addr.add _ _).block ≠ _; rw [add_block]; exact Nat.ne_of_lt (Nat.lt_of_lt_of_le (by have := World.block_lt_of_cell? _ _ hw248_2; first | rwa [add_block] at this | exact this) GW254.out)) | (dsimp only; exact Nat.ne_of_lt (Nat.lt_of_lt_of_le (by have := World.block_lt_of_cell? _ _ hw248_2; first | rwa [add_block] at this | exact this) GW254.out))) _).trans (((cell_far (p := ⟨gb254, _, none⟩) (by first | exact Nat.ne_of_lt (Nat.lt_of_lt_of_le (by have := World.block_lt_of_cell? _ _ hw248_2; first | rwa [add_block] at this | exact this) GW254.out) | (rw [add_block]; exact Nat.ne_of_lt (Nat.lt_of_lt_of_le (by have := World.block_lt_of_cell? _ _ hw248_2; first | rwa [add_block] at this | exact this) GW254.out)) | (show (Addr.add _ _).block ≠ _; rw [add_block]; exact Nat.ne_of_lt (Nat.lt_of_lt_of_le (by have := World.block_lt_of_cell? _ _ hw248_2; first | rwa [add_block] at this | exact this) GW254.out)) | (dsimp only; exact Nat.ne_of_lt (Nat.lt_of_lt_of_le (by have := World.block_lt_of_cell? _ _ hw248_2; first | rwa [add_block] at this | exact this) GW254.out))) _).trans (((cell_far (p := ⟨gb254, _, none⟩) (by first | exact Nat.ne_of_lt (Nat.lt_of_lt_of_le (by have := World.block_lt_of_cell? _ _ hw248_2; first | rwa [add_block] at this | exact this) GW254.out) | (rw [add_block]; exact Nat.ne_of_lt (Nat.lt_of_lt_of_le (by have := World.block_lt_of_cell? _ _ hw248_2; first | rwa [add_block] at this | exact this) GW254.out)) | (show (Addr.add _ _).block ≠ _; rw [add_block]; exact Nat.ne_of_lt (Nat.lt_of_lt_of_le (by have := World.block_lt_of_cell? _ _ hw248_2; first | rwa [add_block] at this | exact this) GW254.out)) | (dsimp only; exact Nat.ne_of_lt (Nat.lt_of_lt_of_le (by have := World.block_lt_of_cell? _ _ hw248_2; first | rwa [add_block] at this | exact this) GW254.out))) _).trans (hHeld.2.2.2.2.2.2.2.2.2.2.1)))))))), ((cell_far (p := ⟨gb254, _, none⟩) (by first | exact Nat.ne_of_lt (Nat.lt_of_lt_of_le (by have := World.block_lt_of_cell? _ _ hw248_3; first | rwa [add_block] at this | exact this) GW254.out) | (rw [add_block]; exact Nat.ne_of_lt (Nat.lt_of_lt_of_le (by have := World.block_lt_of_cell? _ _ hw248_3; first | rwa [add_block] at this | exact this) GW254.out)) | (show (Addr.add _ _).block ≠ _; rw [add_block]; exact Nat.ne_of_lt (Nat.lt_of_lt_of_le (by have := World.block_lt_of_cell? _ _ hw248_3; first | rwa [add_block] at this | exact this) GW254.out)) | (dsimp only; exact Nat.ne_of_lt (Nat.lt_of_lt_of_le (by have := World.block_lt_of_cell? _ _ hw248_3; first | rwa [add_block] at this | exact this) GW254.out))) _).trans (((cell_far (p := ⟨gb254, _, none⟩) (by first | exact Nat.ne_of_lt (Nat.lt_of_lt_of_le (by have := World.block_lt_of_cell? _ _ hw248_3; first | rwa [add_block] at this | exact this) GW254.out) | (rw [add_block]; exact Nat.ne_of_lt (Nat.lt_of_lt_of_le (by have := World.block_lt_of_cell? _ _ hw248_3; first | rwa [add_block] at this | exact this) GW254.out)) | (show (Addr.add _ _).block ≠ _; rw [add_block]; exact Nat.ne_of_lt (Nat.lt_of_lt_of_le (by have := World.block_lt_of_cell? _ _ hw248_3; first | rwa [add_block] at this | exact this) GW254.out)) | (dsimp only; exact Nat.ne_of_lt (Nat.lt_of_lt_of_le (by have := World.block_lt_of_cell? _ _ hw248_3; first | rwa [add_block] at this | exact this) GW254.out))) _).trans (((cell_far (p := ⟨gb254, _, none⟩) (by first | exact Nat.ne_of_lt (Nat.lt_of_lt_of_le (by have := World.block_lt_of_cell? _ _ hw248_3; first | rwa [add_block] at this | exact this) GW254.out) | (rw [add_block]; exact Nat.ne_of_lt (Nat.lt_of_lt_of_le (by have := World.block_lt_of_cell? _ _ hw248_3; first | rwa [add_block] at this | exact this) GW254.out)) | (show (Addr.add _ _).block ≠ _; rw [add_block]; exact Nat.ne_of_lt (Nat.lt_of_lt_of_le (by have := World.block_lt_of_cell? _ _ hw248_3; first | rwa [add_block] at this | exact this) GW254.out)) | (dsimp only; exact Nat.ne_of_lt (Nat.lt_of_lt_of_le (by have := World.block_lt_of_cell? _ _ hw248_3; first | rwa [add_block] at this | exact this) GW254.out))) _).trans (((cell_far (p := ⟨gb254, _, none⟩) (by first | exact Nat.ne_of_lt (Nat.lt_of_lt_of_le (by have := World.block_lt_of_cell? _ _ hw248_3; first | rwa [add_block] at this | exact this) GW254.out) | (rw [add_block]; exact Nat.ne_of_lt (Nat.lt_of_lt_of_le (by have := World.block_lt_of_cell? _ _ hw248_3; first | rwa [add_block] at this | exact this) GW254.out)) | (show (Addr.add _ _).block ≠ _; rw [add_block]; exact Nat.ne_of_lt (Nat.lt_of_lt_of_le (by have := World.block_lt_of_cell? _ _ hw248_3; first | rwa [add_block] at this | exact this) GW254.out)) | (dsimp only; exact Nat.ne_of_lt (Nat.lt_of_lt_of_le (by have := World.block_lt_of_cell? _ _ hw248_3; first | rwa [add_block] at this | exact this) GW254.out))) _).trans (hHeld.2.2.2.2.2.2.2.2.2.2.2))))))))⟩ (fun hHeld => ?_)
            clear hK K
            refine pure_ (i := 19) (N := some 16) (v := ?_) (a' := ?_) #[true, true, true, true, true, true, true, true, true, true, true, true, true, true, true, true, true, true, true, true] rfl rfl (any_of HT_.out (by kernel_rfl)) (fun _ _ _ h => h) (Or.inl ⟨by rfl, ?_⟩) ?_ ?_
            rotate_left
            ·
             intro w'
             go_simp
             with_reducible rfl
            rotate_left
            ·
             simp only [Act.put, List.setIfInBounds_toArray, List.set_cons_zero, List.set_cons_succ, i64_w, i32_w]
             rfl
            refine done_ (done_of HT_.out (by kernel_rfl)) ?_
            try go_wp2
            have n0_ : Aside0 (Kd.V (Kd.int .i64) 3 ((((w101.setCell ⟨gb254, 0, none⟩ (.int .i64 t249)).setCell ⟨gb254, 1, none⟩ (.int .i64 t250)).setCell ⟨gb254, 2, none⟩ (.int .i64 t251)).setCell ⟨gb254, 3, none⟩ (.int .i64 t252)) w.heap.size (fun k_ => k_ ≠ gb218 ∧ k_ ≠ gb232 ∧ k_ ≠ gb233 ∧ k_ ≠ gb240 ∧ k_ ≠ gb246 ∧ k_ ≠ gb254) (.slice Ao19 t221.length co19) t221) := ⟨by (with_reducible repeat (first | apply Kd.V_alloc | apply Kd.V_drewN | apply Kd.V_drew)); exact Kd.V_mono (Kd.V_far (p := ⟨gb254, 3, none⟩) (Kd.V_far (p := ⟨gb254, 2, none⟩) (Kd.V_far (p := ⟨gb254, 1, none⟩) (Kd.V_far (p := ⟨gb254, 0, none⟩) (Kd.V_mono HO_233000.out (fun k_ hk => (⟨hk, hk.2.2.2.2.2⟩ : _ ∧ k_ ≠ gb254))) (fun _ hk => hk.2) (.int .i64 t249)) (fun _ hk => hk.2) (.int .i64 t250)) (fun _ hk => hk.2) (.int .i64 t251)) (fun _ hk => hk.2) (.int .i64 t252)) (fun _ hk => ⟨hk.1.1, ⟨hk.1.2.1, ⟨hk.1.2.2.1, ⟨hk.1.2.2.2.1, ⟨hk.1.2.2.2.2.1, hk.1.2.2.2.2.2⟩⟩⟩⟩⟩)⟩
            have n1_ : Aside0 (Kd.V k29 29 ((((w101.setCell ⟨gb254, 0, none⟩ (.int .i64 t249)).setCell ⟨gb254, 1, none⟩ (.int .i64 t250)).setCell ⟨gb254, 2, none⟩ (.int .i64 t251)).setCell ⟨gb254, 3, none⟩ (.int .i64 t252)) w.heap.size (fun k_ => k_ ≠ gb218 ∧ k_ ≠ gb232 ∧ k_ ≠ gb233 ∧ k_ ≠ gb240 ∧ k_ ≠ gb246 ∧ k_ ≠ gb254) (.slice Ao23 t224.length co23) t224) := ⟨by (with_reducible repeat (first | apply Kd.V_alloc | apply Kd.V_drewN | apply Kd.V_drew)); exact Kd.V_mono (Kd.V_far (p := ⟨gb254, 3, none⟩) (Kd.V_far (p := ⟨gb254, 2, none⟩) (Kd.V_far (p := ⟨gb254, 1, none⟩) (Kd.V_far (p := ⟨gb254, 0, none⟩) (Kd.V_mono HO_233001.out (fun k_ hk => (⟨hk, hk.2.2.2.2.2⟩ : _ ∧ k_ ≠ gb254))) (fun _ hk => hk.2) (.int .i64 t249)) (fun _ hk => hk.2) (.int .i64 t250)) (fun _ hk => hk.2) (.int .i64 t251)) (fun _ hk => hk.2) (.int .i64 t252)) (fun _ hk => ⟨hk.1.1, ⟨hk.1.2.1, ⟨hk.1.2.2.1, ⟨hk.1.2.2.2.1, ⟨hk.1.2.2.2.2.1, hk.1.2.2.2.2.2⟩⟩⟩⟩⟩)⟩
            have n2_ : Aside0 (((((w101.setCell ⟨gb254, 0, none⟩ (.int .i64 t249)).setCell ⟨gb254, 1, none⟩ (.int .i64 t250)).setCell ⟨gb254, 2, none⟩ (.int .i64 t251)).setCell ⟨gb254, 3, none⟩ (.int .i64 t252)).heap[gb218]? = some (.cells #[.slice A0_0 l0_0.length c0_0, .slice (some ad247) l0_1.length c0_1] 25 (0, 0))) := ⟨by (with_reducible repeat (first | refine blk_drewN ?_ _ | refine blk_drew ?_ | refine blk_alloc ?_ _)); refine blk_far ?_ NB218_254.out _; (with_reducible repeat (first | refine blk_drewN ?_ _ | refine blk_drew ?_ | refine blk_alloc ?_ _)); refine blk_far ?_ NB218_254.out _; (with_reducible repeat (first | refine blk_drewN ?_ _ | refine blk_drew ?_ | refine blk_alloc ?_ _)); refine blk_far ?_ NB218_254.out _; (with_reducible repeat (first | refine blk_drewN ?_ _ | refine blk_drew ?_ | refine blk_alloc ?_ _)); refine blk_far ?_ NB218_254.out _; (with_reducible repeat (first | refine blk_drewN ?_ _ | refine blk_drew ?_ | refine blk_alloc ?_ _)); exact BK218.out⟩
            have n3_ : Aside0 (((((w101.setCell ⟨gb254, 0, none⟩ (.int .i64 t249)).setCell ⟨gb254, 1, none⟩ (.int .i64 t250)).setCell ⟨gb254, 2, none⟩ (.int .i64 t251)).setCell ⟨gb254, 3, none⟩ (.int .i64 t252)).heap[gb232]? = some (.cells #[.slice Ao19 t221.length co19, .slice Ao23 t224.length co23] 25 (0, 0))) := ⟨by (with_reducible repeat (first | refine blk_drewN ?_ _ | refine blk_drew ?_ | refine blk_alloc ?_ _)); refine blk_far ?_ NB232_254.out _; (with_reducible repeat (first | refine blk_drewN ?_ _ | refine blk_drew ?_ | refine blk_alloc ?_ _)); refine blk_far ?_ NB232_254.out _; (with_reducible repeat (first | refine blk_drewN ?_ _ | refine blk_drew ?_ | refine blk_alloc ?_ _)); refine blk_far ?_ NB232_254.out _; (with_reducible repeat (first | refine blk_drewN ?_ _ | refine blk_drew ?_ | refine blk_alloc ?_ _)); refine blk_far ?_ NB232_254.out _; (with_reducible repeat (first | refine blk_drewN ?_ _ | refine blk_drew ?_ | refine blk_alloc ?_ _)); exact BK232.out⟩
            have n4_ : Aside0 (((((w101.setCell ⟨gb254, 0, none⟩ (.int .i64 t249)).setCell ⟨gb254, 1, none⟩ (.int .i64 t250)).setCell ⟨gb254, 2, none⟩ (.int .i64 t251)).setCell ⟨gb254, 3, none⟩ (.int .i64 t252)).heap[gb233]? = some (.cells #[.int .i64 t227, .int .i64 t228, .int .i64 t229, .int .i64 t230] 29 (0, 0))) := ⟨by (with_reducible repeat (first | refine blk_drewN ?_ _ | refine blk_drew ?_ | refine blk_alloc ?_ _)); refine blk_far ?_ NB233_254.out _; (with_reducible repeat (first | refine blk_drewN ?_ _ | refine blk_drew ?_ | refine blk_alloc ?_ _)); refine blk_far ?_ NB233_254.out _; (with_reducible repeat (first | refine blk_drewN ?_ _ | refine blk_drew ?_ | refine blk_alloc ?_ _)); refine blk_far ?_ NB233_254.out _; (with_reducible repeat (first | refine blk_drewN ?_ _ | refine blk_drew ?_ | refine blk_alloc ?_ _)); refine blk_far ?_ NB233_254.out _; (with_reducible repeat (first | refine blk_drewN ?_ _ | refine blk_drew ?_ | refine blk_alloc ?_ _)); exact BK233.out⟩
            have n5_ : Aside0 (((((w101.setCell ⟨gb254, 0, none⟩ (.int .i64 t249)).setCell ⟨gb254, 1, none⟩ (.int .i64 t250)).setCell ⟨gb254, 2, none⟩ (.int .i64 t251)).setCell ⟨gb254, 3, none⟩ (.int .i64 t252)).heap[gb240]? = some (.cells #[.int .i64 t235, .int .i64 t236, .int .i64 t237, .int .i64 t238] 29 (0, 0))) := ⟨by (with_reducible repeat (first | refine blk_drewN ?_ _ | refine blk_drew ?_ | refine blk_alloc ?_ _)); refine blk_far ?_ NB240_254.out _; (with_reducible repeat (first | refine blk_drewN ?_ _ | refine blk_drew ?_ | refine blk_alloc ?_ _)); refine blk_far ?_ NB240_254.out _; (with_reducible repeat (first | refine blk_drewN ?_ _ | refine blk_drew ?_ | refine blk_alloc ?_ _)); refine blk_far ?_ NB240_254.out _; (with_reducible repeat (first | refine blk_drewN ?_ _ | refine blk_drew ?_ | refine blk_alloc ?_ _)); refine blk_far ?_ NB240_254.out _; (with_reducible repeat (first | refine blk_drewN ?_ _ | refine blk_drew ?_ | refine blk_alloc ?_ _)); exact BK240.out⟩
            have n6_ : Aside0 (((((w101.setCell ⟨gb254, 0, none⟩ (.int .i64 t249)).setCell ⟨gb254, 1, none⟩ (.int .i64 t250)).setCell ⟨gb254, 2, none⟩ (.int .i64 t251)).setCell ⟨gb254, 3, none⟩ (.int .i64 t252)).heap[gb246]? = some (.cells #[.int .i64 t241, .int .i64 t242, .int .i64 t243, .int .i64 t244] 29 (0, 0))) := ⟨by (with_reducible repeat (first | refine blk_drewN ?_ _ | refine blk_drew ?_ | refine blk_alloc ?_ _)); refine blk_far ?_ NB246_254.out _; (with_reducible repeat (first | refine blk_drewN ?_ _ | refine blk_drew ?_ | refine blk_alloc ?_ _)); refine blk_far ?_ NB246_254.out _; (with_reducible repeat (first | refine blk_drewN ?_ _ | refine blk_drew ?_ | refine blk_alloc ?_ _)); refine blk_far ?_ NB246_254.out _; (with_reducible repeat (first | refine blk_drewN ?_ _ | refine blk_drew ?_ | refine blk_alloc ?_ _)); refine blk_far ?_ NB246_254.out _; (with_reducible repeat (first | refine blk_drewN ?_ _ | refine blk_drew ?_ | refine blk_alloc ?_ _)); exact BK246.out⟩
            have n7_ : Aside0 (((((w101.setCell ⟨gb254, 0, none⟩ (.int .i64 t249)).setCell ⟨gb254, 1, none⟩ (.int .i64 t250)).setCell ⟨gb254, 2, none⟩ (.int .i64 t251)).setCell ⟨gb254, 3, none⟩ (.int .i64 t252)).heap[gb254]? = some (.cells #[.int .i64 t249, .int .i64 t250, .int .i64 t251, .int .i64 t252] 29 (0, 0))) := ⟨by (with_reducible repeat (first | refine blk_drewN ?_ _ | refine blk_drew ?_ | refine blk_alloc ?_ _)); refine blk_put (cs := #[.int .i64 t249, .int .i64 t250, .int .i64 t251, .int .i64 0]) ?_ 3 _ rfl; (with_reducible repeat (first | refine blk_drewN ?_ _ | refine blk_drew ?_ | refine blk_alloc ?_ _)); refine blk_put (cs := #[.int .i64 t249, .int .i64 t250, .int .i64 0, .int .i64 0]) ?_ 2 _ rfl; (with_reducible repeat (first | refine blk_drewN ?_ _ | refine blk_drew ?_ | refine blk_alloc ?_ _)); refine blk_put (cs := #[.int .i64 t249, .int .i64 0, .int .i64 0, .int .i64 0]) ?_ 1 _ rfl; (with_reducible repeat (first | refine blk_drewN ?_ _ | refine blk_drew ?_ | refine blk_alloc ?_ _)); refine blk_put (cs := #[.int .i64 0, .int .i64 0, .int .i64 0, .int .i64 0]) ?_ 0 _ rfl; (with_reducible repeat (first | refine blk_drewN ?_ _ | refine blk_drew ?_ | refine blk_alloc ?_ _)); exact BK254.out⟩
            have n8_ : Aside0 (Below w.heap.size w ((((w101.setCell ⟨gb254, 0, none⟩ (.int .i64 t249)).setCell ⟨gb254, 1, none⟩ (.int .i64 t250)).setCell ⟨gb254, 2, none⟩ (.int .i64 t251)).setCell ⟨gb254, 3, none⟩ (.int .i64 t252))) := ⟨by repeat (first | (with_reducible first | exact HB.out | apply below_alloc | apply pw_below_drewN | apply below_drew1 | refine below_set ?_ GE218.out | refine below_set ?_ GE232.out | refine below_set ?_ GE233.out | refine below_set ?_ GE240.out | refine below_set ?_ GE246.out | refine below_set ?_ GE254.out) | exact HB.out)⟩
            (try clear HO_233000)
            (try clear HO_233001)
            (try clear BK218)
            (try clear BK232)
            (try clear BK233)
            (try clear BK240)
            (try clear BK246)
            (try clear BK254)
            (try clear HB)
            generalize ((((w101.setCell ⟨gb254, 0, none⟩ (.int .i64 t249)).setCell ⟨gb254, 1, none⟩ (.int .i64 t250)).setCell ⟨gb254, 2, none⟩ (.int .i64 t251)).setCell ⟨gb254, 3, none⟩ (.int .i64 t252)) = w106 at n0_ n1_ n2_ n3_ n4_ n5_ n6_ n7_ n8_ ⊢
            have HO_233000 := n0_
            have HO_233001 := n1_
            have BK218 := n2_
            have BK232 := n3_
            have BK233 := n4_
            have BK240 := n5_
            have BK246 := n6_
            have BK254 := n7_
            have HB := n8_
            clear n0_ n1_ n2_ n3_ n4_ n5_ n6_ n7_ n8_
            have n0_ := Aside0.mk (Kd.V_drew HO_233000.out)
            have n1_ := Aside0.mk (Kd.V_drew HO_233001.out)
            have n2_ := Aside0.mk (blk_drew BK218.out)
            have n3_ := Aside0.mk (blk_drew BK232.out)
            have n4_ := Aside0.mk (blk_drew BK233.out)
            have n5_ := Aside0.mk (blk_drew BK240.out)
            have n6_ := Aside0.mk (blk_drew BK246.out)
            have n7_ := Aside0.mk (blk_drew BK254.out)
            have n8_ := Aside0.mk (below_drew1 HB.out)
            clear HO_233000
            clear HO_233001
            clear BK218
            clear BK232
            clear BK233
            clear BK240
            clear BK246
            clear BK254
            clear HB
            have HO_233000 := n0_
            have HO_233001 := n1_
            have BK218 := n2_
            have BK232 := n3_
            have BK233 := n4_
            have BK240 := n5_
            have BK246 := n6_
            have BK254 := n7_
            have HB := n8_
            clear n0_ n1_ n2_ n3_ n4_ n5_ n6_ n7_ n8_
            have p255 : 0 ≤ (x14_2 : Int) := of_decide_eq_true (by first | (with_reducible assumption) | assumption)
            have q255 : x14_2 < (l0_1.length : Int) := of_decide_eq_true (by first | (with_reducible assumption) | assumption)
            obtain ⟨ad255, e255, hx255_0, hx255_1, hx255_2, hx255_3⟩ := at_T29 HR0_1.out x14_2 p255 q255
            have hw255_3 := hx255_3
            have hw255_2 := hx255_2
            have hw255_1 := hx255_1
            have hw255_0 := hx255_0
            obtain rfl : ad247 = ad255 := (by injection e255)
            replace hx255_0 := (HB.out.cell (World.block_lt_of_cell? w _ hx255_0)).trans hx255_0
            replace hx255_1 := (HB.out.cell (World.block_lt_of_cell? w _ hx255_1)).trans hx255_1
            replace hx255_2 := (HB.out.cell (World.block_lt_of_cell? w _ hx255_2)).trans hx255_2
            replace hx255_3 := (HB.out.cell (World.block_lt_of_cell? w _ hx255_3)).trans hx255_3
            replace p255 := eq_true p255
            replace q255 := eq_true q255
            refine start_ (n := 11) (S := fun w' => w'.cell? ⟨gb254, 0, none⟩ = some (.int .i64 t249) ∧ w'.cell? ⟨gb254, 1, none⟩ = some (.int .i64 t250) ∧ w'.cell? ⟨gb254, 2, none⟩ = some (.int .i64 t251) ∧ w'.cell? ⟨gb254, 3, none⟩ = some (.int .i64 t252) ∧ w'.cell? ⟨gb218, 0, none⟩ = some (.slice A0_0 l0_0.length c0_0) ∧ w'.cell? ⟨gb218, 1, none⟩ = some (.slice (some ad247) l0_1.length c0_1) ∧ w'.cell? (ad247.add ((x14_2).toNat * 4)) = some (.int .i64 ((rd_T29 l0_1 x14_2).f0)) ∧ w'.cell? ⟨(ad247.add ((x14_2).toNat * 4)).block, (ad247.add ((x14_2).toNat * 4)).off + 1, none⟩ = some (.int .i64 ((rd_T29 l0_1 x14_2).f1)) ∧ w'.cell? ⟨(ad247.add ((x14_2).toNat * 4)).block, (ad247.add ((x14_2).toNat * 4)).off + 2, none⟩ = some (.int .i64 ((rd_T29 l0_1 x14_2).f2)) ∧ w'.cell? ⟨(ad247.add ((x14_2).toNat * 4)).block, (ad247.add ((x14_2).toNat * 4)).off + 3, none⟩ = some (.int .i64 ((rd_T29 l0_1 x14_2).f3))) (ds := []) #[false, false, false, false, false, false, false, false, false, false, false] (by kernel_rfl) rfl rfl ⟨(blk_cell BK254.out 0).trans rfl, (blk_cell BK254.out 1).trans rfl, (blk_cell BK254.out 2).trans rfl, (blk_cell BK254.out 3).trans rfl, (blk_cell BK218.out 0).trans rfl, (blk_cell BK218.out 1).trans rfl, ((HB.out.cell (World.block_lt_of_cell? w _ hw255_0)).trans hw255_0), ((HB.out.cell (World.block_lt_of_cell? w _ hw255_1)).trans hw255_1), ((HB.out.cell (World.block_lt_of_cell? w _ hw255_2)).trans hw255_2), ((HB.out.cell (World.block_lt_of_cell? w _ hw255_3)).trans hw255_3)⟩ (fun hHeld => ?_); refine with_tabW interchangelaw13_PoolFresh.tab16 interchangelaw13_PoolFresh.bits16 (fun HT_ HW_ => ?_)
            generalize w106.drew = w107 at HO_233000 HO_233001 BK218 BK232 BK233 BK240 BK246 BK254 HB hx255_0 hx255_1 hx255_2 hx255_3 hHeld ⊢
            refine pure_ (i := 0) (N := some 113) (v := ?_) (a' := ?_) #[true, false, false, false, false, false, false, false, false, false, false] rfl rfl (any_of HT_.out (by kernel_rfl)) (fun _ _ _ h => h) (Or.inl ⟨by rfl, ?_⟩) ?_ ?_
            rotate_left
            ·
             intro w'
             go_simp
             with_reducible rfl
            rotate_left
            ·
             simp only [Act.put, List.setIfInBounds_toArray, List.set_cons_zero, List.set_cons_succ, i64_w, i32_w]
             rfl
            refine pure_ (i := 1) (N := some 114) (v := ?_) (a' := ?_) #[true, true, false, false, false, false, false, false, false, false, false] rfl rfl (any_of HT_.out (by kernel_rfl)) (fun _ _ _ h => h) (Or.inl ⟨by rfl, ?_⟩) ?_ ?_
            rotate_left
            ·
             intro w'
             go_simp
             with_reducible rfl
            rotate_left
            ·
             simp only [Act.put, List.setIfInBounds_toArray, List.set_cons_zero, List.set_cons_succ, i64_w, i32_w]
             rfl
            refine pure_ (i := 2) (N := some 115) (v := ?_) (a' := ?_) #[true, true, true, false, false, false, false, false, false, false, false] rfl rfl (any_of HT_.out (by kernel_rfl)) (fun _ _ _ h => h) (Or.inl ⟨by rfl, ?_⟩) ?_ ?_
            rotate_left
            ·
             intro w'
             go_simp
             with_reducible rfl
            rotate_left
            ·
             simp only [Act.put, List.setIfInBounds_toArray, List.set_cons_zero, List.set_cons_succ, i64_w, i32_w]
             rfl
            refine pure_ (i := 4) (N := some 117) (v := ?_) (a' := ?_) #[true, true, true, false, true, false, false, false, false, false, false] rfl rfl (any_of HT_.out (by kernel_rfl)) (fun _ _ _ h => h) (Or.inl ⟨by rfl, ?_⟩) ?_ ?_
            rotate_left
            ·
             intro w'
             go_simp
             with_reducible rfl
            rotate_left
            ·
             simp only [Act.put, List.setIfInBounds_toArray, List.set_cons_zero, List.set_cons_succ, i64_w, i32_w]
             rfl
            refine pure_ (i := 6) (N := some 119) (v := ?_) (a' := ?_) #[true, true, true, false, true, false, true, false, false, false, false] rfl rfl (any_of HT_.out (by kernel_rfl)) (fun _ _ _ h => h) (Or.inl ⟨by rfl, ?_⟩) ?_ ?_
            rotate_left
            ·
             intro w'
             go_simp
             with_reducible rfl
            rotate_left
            ·
             simp only [Act.put, List.setIfInBounds_toArray, List.set_cons_zero, List.set_cons_succ, i64_w, i32_w]
             rfl
            refine take_ (i := 3) (N := some 116) (v := ?_) (a' := ?_) #[true, true, true, true, true, false, true, false, false, false, false] rfl rfl (take_ofW HT_.out HW_.out (by kernel_rfl)) (fun _ _ _ h => h) (Or.inl ⟨by rfl, ?_⟩) hHeld ?_ ?_
            rotate_left
            ·
             rintro w' ⟨s0, s1, s2, s3, s4, s5, s6, s7, s8, s9⟩
             go_simp
             with_reducible rfl
            rotate_left
            ·
             simp only [Act.put, List.setIfInBounds_toArray, List.set_cons_zero, List.set_cons_succ, i64_w, i32_w]
             rfl
            refine take_ (i := 5) (N := some 118) (v := ?_) (a' := ?_) #[true, true, true, true, true, true, true, false, false, false, false] rfl rfl (take_ofW HT_.out HW_.out (by kernel_rfl)) (fun _ _ _ h => h) (Or.inl ⟨by rfl, ?_⟩) hHeld ?_ ?_
            rotate_left
            ·
             rintro w' ⟨s0, s1, s2, s3, s4, s5, s6, s7, s8, s9⟩
             go_simp
             with_reducible rfl
            rotate_left
            ·
             simp only [Act.put, List.setIfInBounds_toArray, List.set_cons_zero, List.set_cons_succ, i64_w, i32_w]
             rfl
            refine pure_ (i := 7) (N := some 120) (v := ?_) (a' := ?_) #[true, true, true, true, true, true, true, true, false, false, false] rfl rfl (any_of HT_.out (by kernel_rfl)) (fun _ _ _ h => h) (Or.inl ⟨by rfl, ?_⟩) ?_ ?_
            rotate_left
            ·
             intro w'
             go_simp
             with_reducible rfl
            rotate_left
            ·
             simp only [Act.put, List.setIfInBounds_toArray, List.set_cons_zero, List.set_cons_succ, i64_w, i32_w]
             rfl
            refine take_ (i := 8) (N := some 121) (v := ?_) (a' := ?_) #[true, true, true, true, true, true, true, true, true, false, false] rfl rfl (take_ofW HT_.out HW_.out (by kernel_rfl)) (fun _ _ _ h => h) (Or.inl ⟨by rfl, ?_⟩) hHeld ?_ ?_
            rotate_left
            ·
             rintro w' ⟨s0, s1, s2, s3, s4, s5, s6, s7, s8, s9⟩
             go_simp
             with_reducible rfl
            rotate_left
            ·
             simp only [Act.put, List.setIfInBounds_toArray, List.set_cons_zero, List.set_cons_succ, i64_w, i32_w]
             rfl
            refine pure_ (i := 9) (N := some 122) (v := ?_) (a' := ?_) #[true, true, true, true, true, true, true, true, true, true, false] rfl rfl (any_of HT_.out (by kernel_rfl)) (fun _ _ _ h => h) (Or.inl ⟨by rfl, ?_⟩) ?_ ?_
            rotate_left
            ·
             intro w'
             go_simp
             with_reducible rfl
            rotate_left
            ·
             simp only [Act.put, List.setIfInBounds_toArray, List.set_cons_zero, List.set_cons_succ, i64_w, i32_w]
             rfl
            refine pure_ (i := 10) (N := some 123) (v := ?_) (a' := ?_) #[true, true, true, true, true, true, true, true, true, true, true] rfl rfl (any_of HT_.out (by kernel_rfl)) (fun _ _ _ h => h) (Or.inl ⟨by rfl, ?_⟩) ?_ ?_
            rotate_left
            ·
             intro w'
             go_simp
             with_reducible rfl
            rotate_left
            ·
             simp only [Act.put, List.setIfInBounds_toArray, List.set_cons_zero, List.set_cons_succ, i64_w, i32_w]
             rfl
            refine done_ (done_of HT_.out (by kernel_rfl)) ?_
            try go_wp2
            go_roundg k2
            case measure => have := HJ9.out; have := HK2.out; omega
            case rel => exact ⟨(wrap64 (x14_2 + 1)), (by first | rfl | (simp; done) | (simp [*]; done)), H', ⟨by have := HJ9.out; have := HK2.out; omega⟩, ⟨by (with_reducible repeat (first | apply Kd.V_alloc | apply Kd.V_drewN | apply Kd.V_drew)); exact Kd.V_mono HO_233000.out (fun _ hk => ⟨hk.1, ⟨hk.2.1, ⟨hk.2.2.1, ⟨hk.2.2.2.1, hk.2.2.2.2.1⟩⟩⟩⟩)⟩, ⟨by (with_reducible repeat (first | apply Kd.V_alloc | apply Kd.V_drewN | apply Kd.V_drew)); exact Kd.V_mono HO_233001.out (fun _ hk => ⟨hk.1, ⟨hk.2.1, ⟨hk.2.2.1, ⟨hk.2.2.2.1, hk.2.2.2.2.1⟩⟩⟩⟩)⟩, ⟨by (with_reducible repeat (first | refine blk_drewN ?_ _ | refine blk_drew ?_ | refine blk_alloc ?_ _)); exact BK218.out⟩, ⟨by (with_reducible repeat (first | refine blk_drewN ?_ _ | refine blk_drew ?_ | refine blk_alloc ?_ _)); exact BK232.out⟩, ⟨by (with_reducible repeat (first | refine blk_drewN ?_ _ | refine blk_drew ?_ | refine blk_alloc ?_ _)); exact BK233.out⟩, ⟨by (with_reducible repeat (first | refine blk_drewN ?_ _ | refine blk_drew ?_ | refine blk_alloc ?_ _)); exact BK240.out⟩, ⟨by (with_reducible repeat (first | refine blk_drewN ?_ _ | refine blk_drew ?_ | refine blk_alloc ?_ _)); exact BK246.out⟩, ⟨by repeat (first | (with_reducible first | exact HB.out | apply below_alloc | apply pw_below_drewN | apply below_drew1 | refine below_set ?_ GE218.out | refine below_set ?_ GE232.out | refine below_set ?_ GE233.out | refine below_set ?_ GE240.out | refine below_set ?_ GE246.out | refine below_set ?_ GE254.out) | exact HB.out)⟩⟩
          ·
           replace c91 := Bool.eq_false_iff.mpr c91
           subst c91
           have H1 : (some false) = some r := by rw [if_neg (show ¬ (false = true) by decide)] at H; exact H
           clear H
           have H := H1
           clear H1
           exact absurd ((Option.some.inj H).trans hT_.out) (by decide)
         ·
          rw [if_neg c89] at H
          exact absurd H (by simp)
        ·
         rw [if_neg c88] at H
         have c88b0 : decide (x14_2 < (l0_1.length : Int)) = false := decide_eq_false c88
         clear c88
         obtain rfl := Option.some.inj H
         have hnb108 := NB218_232.out
         have hnc108 := NB232_218.out
         have hnb109 := NB218_233.out
         have hnc109 := NB233_218.out
         have hnb110 := NB218_240.out
         have hnc110 := NB240_218.out
         have hnb111 := NB218_246.out
         have hnc111 := NB246_218.out
         have hcz112_0 : wr.cell? ⟨gb218, 0, none⟩ = some (.slice A0_0 l0_0.length c0_0) := (blk_cell BK218.out 0).trans rfl
         have hcz112_1 : wr.cell? ⟨gb218, 1, none⟩ = some (.slice A0_1 l0_1.length c0_1) := (blk_cell BK218.out 1).trans rfl
         have hfz112_0 := blk_frozen BK218.out 0
         have hfz112_1 := blk_frozen BK218.out 1
         go_wp2
         go_ret
         exact ⟨by first | rfl | (simp [errW_none, errW_some] <;> rfl) | (simp [*, errW_none, errW_some] <;> rfl) | (exfalso; simp only [decide_eq_true_eq, decide_eq_false_iff_not, beq_iff_eq, bne_iff_ne, ne_eq, beq_eq_false_iff_ne, bne_eq_false_iff_eq] at *; omega), by repeat (first | (with_reducible first | exact HB.out | apply below_alloc | apply pw_below_drewN | apply below_drew1 | refine below_set ?_ GE218.out | refine below_set ?_ GE232.out | refine below_set ?_ GE233.out | refine below_set ?_ GE240.out | refine below_set ?_ GE246.out) | exact HB.out)⟩
  ·
   rw [if_neg c7] at H
   have c7b0 : (t231 == 0) = false := beq_eq_false_iff_ne.mpr c7
   have c7b1 : (t231 != 0) = true := bne_iff_ne.mpr c7
   replace H := Option.bind_eq_some_iff.mp H
   obtain ⟨t234, A1130, H⟩ := H
   replace H : (if t234 = true then (some (t227 == 0 && (t228 == 0 && (t229 == 0 && (t230 == 0))))) else (some false)) = some r := H
   have A113 := Aside0.mk A1130
   clear A1130
   by_cases c114 : t234 = true
   ·
    subst c114
    have H1 : (some (t227 == 0 && (t228 == 0 && (t229 == 0 && (t230 == 0))))) = some r := by rw [if_pos rfl] at H; exact H
    clear H
    have H := H1
    clear H1
    replace H : (if (t227 == 0 && (t228 == 0 && (t229 == 0 && (t230 == 0)))) = true then (some true) else (some false)) = some r := by
     rw [← H]
     by_cases hc_ : (t227 == 0 && (t228 == 0 && (t229 == 0 && (t230 == 0)))) = true
     ·
      rw [if_pos hc_]; exact congrArg some (Eq.symm (by first | exact decide_eq_true hc_ | exact beq_iff_eq.mpr hc_ | exact hc_ | (simp [hc_]; done) | simp_all))
     ·
      rw [if_neg hc_]; exact congrArg some (Eq.symm (by first | exact decide_eq_false hc_ | exact beq_eq_false_iff_ne.mpr hc_ | exact Bool.eq_false_iff.mpr hc_ | (simp [hc_]; done) | simp_all))
    by_cases c115 : (t227 == 0 && (t228 == 0 && (t229 == 0 && (t230 == 0)))) = true
    ·
     rw [if_pos c115] at H
     have c115b0 : (t227 == 0 && (t228 == 0 && (t229 == 0 && (t230 == 0)))) = true := c115
     (try (have c115b1 : decide (t227 = 0 && (t228 == 0 && (t229 == 0 && (t230 == 0)))) = true := by simpa using c115))
     (try (have c115b2 : (t227 == 0 && (t228 == 0 && (t229 == 0 && (t230 == 0)))) = true := by simpa using c115))
     clear c115
     obtain rfl := Option.some.inj H
     go_enter Try.func4, Try.ntmps4
     go_wp2_with (first | ((with_reducible refine gate_dst (N := 2) rfl ?_); (try (refine gate_guard (by rfl) ?_; dsimp only)); refine box_event ?hg (N := 2) ?hd (cs := #[.slice A0_0 l0_0.length c0_0, .slice A0_1 l0_1.length c0_1]) (t := 25) ?hr ?_; (case hd => rfl); (case hg => rfl); (case hr => first | (go_simp; done) | (go_simp; rfl)); intro gb218 hg w116 hbox hb; have BK218 := Aside0.mk (hbox); have GW218 := Aside0.mk ((by rw [hg]; exact (below_size (bl HB.out)) : w.heap.size ≤ gb218)); have GE218 := GW218; replace HB := hs HB hb; clear hb hbox hg) | ((with_reducible refine gate_callee (f := 10) rfl ?_); refine goesL_ (some 17) rfl rfl Try.func10 (by kernel_rfl) rfl #[] rfl (by (try simp only [List.map_toArray, List.map_cons, List.map_nil]); first | done | rfl | (simp only [List.length_drop, List.length_take]; rfl)) ?_; (with_reducible refine (interchangelaw13_shown.calls k  true _ ⟨rfl⟩ A3.out).mono ?_); rintro e w117 ⟨rfl, hb⟩; refine ⟨_, rfl, ?_⟩; replace BK218 := bb BK218 hb; replace HB := Aside0.mk (below_step (by repeat (first | (with_reducible first | exact HB.out | apply bA | apply bN | apply bD | refine bS ?_ ‹_›) | exact HB.out)) hb); (try clear hb); (try clear hb2); (try clear hk); (try clear hi); have hcz118_0 : w117.cell? ⟨gb218, 0, none⟩ = some (.slice A0_0 l0_0.length c0_0) := (blk_cell BK218.out 0).trans rfl; have hcz118_1 : w117.cell? ⟨gb218, 1, none⟩ = some (.slice A0_1 l0_1.length c0_1) := (blk_cell BK218.out 1).trans rfl; have hfz118_0 := blk_frozen BK218.out 0; have hfz118_1 := blk_frozen BK218.out 1) | ((with_reducible refine gate_callee (f := 11) rfl ?_); refine goesL_ (some 19) rfl rfl Try.func11 (by kernel_rfl) rfl #[.agg #[.slice A0_0 l0_0.length c0_0, .slice A0_1 l0_1.length c0_1]] rfl (by (try simp only [List.map_toArray, List.map_cons, List.map_nil]); first | done | rfl | (simp only [List.length_drop, List.length_take]; rfl)) ?_; (with_reducible refine (interchangelaw13_few.calls k _ _ l0_0 _ _ l0_1 true _ ?side1 ?side2 ?side3 ?side4 A4.out).mono ?_); (case side1 => exact ck (Kd.C_below HR0_0.out HB.out)); (case side2 => exact HC0_0.out); (case side3 => exact ck (Kd.C_below HR0_1.out HB.out)); (case side4 => exact HC0_1.out); rintro e w119 ⟨rfl, hb⟩; refine ⟨_, rfl, ?_⟩; replace BK218 := bb BK218 hb; replace HB := Aside0.mk (below_step (by repeat (first | (with_reducible first | exact HB.out | apply bA | apply bN | apply bD | refine bS ?_ ‹_›) | exact HB.out)) hb); (try clear hb); (try clear hb2); (try clear hk); (try clear hi); have hcz120_0 : w119.cell? ⟨gb218, 0, none⟩ = some (.slice A0_0 l0_0.length c0_0) := (blk_cell BK218.out 0).trans rfl; have hcz120_1 : w119.cell? ⟨gb218, 1, none⟩ = some (.slice A0_1 l0_1.length c0_1) := (blk_cell BK218.out 1).trans rfl; have hfz120_0 := blk_frozen BK218.out 0; have hfz120_1 := blk_frozen BK218.out 1) | ((with_reducible refine gate_callee (f := 12) rfl ?_); refine goesL_ (some 26) rfl rfl Try.func12 (by kernel_rfl) rfl #[.agg #[.slice A0_0 l0_0.length c0_0, .slice A0_1 l0_1.length c0_1], .int .i64 a1] rfl (by (try simp only [List.map_toArray, List.map_cons, List.map_nil]); first | done | rfl | (simp only [List.length_drop, List.length_take]; rfl)) ?_; (with_reducible refine (pool_Lease.calls (fun k_ => k_ < w.heap.size) _ _ l0_0 (fun k_ => k_ < w.heap.size) _ _ l0_1 a1 t221 t224 t227 t228 t229 t230 t231 _ ?side1 ?side2 A6.out).mono ?_); (case side1 => exact Kd.V_mk HC0_0.out (Kd.F_below (Kd.C_F (Kd.heap_int .i64) HR0_0.out) (by repeat (first | (with_reducible first | exact HB.out | apply bA | apply bN | apply bD | refine bS ?_ ‹_›) | exact HB.out)))); (case side2 => exact Kd.V_mk HC0_1.out (Kd.F_below (Kd.C_F k29_heap HR0_1.out) (by repeat (first | (with_reducible first | exact HB.out | apply bA | apply bN | apply bD | refine bS ?_ ‹_›) | exact HB.out)))); rintro e w121 ⟨v222, v225, rfl, ho0, ho1, hb⟩; refine ⟨_, rfl, ?_⟩; have HO223 := Aside0.mk (Kd.V_lower (Kd.V_mono (ok' := fun k_ => k_ ≠ gb218) ho0 (fun k_ hk_ => Or.elim hk_ (fun hs_ => Or.elim hs_ (fun hs_ => fun e_ => Nat.not_le.2 hs_ (by rw [e_]; exact GW218.out)) (fun hs_ => fun e_ => Nat.not_le.2 hs_ (by rw [e_]; exact GW218.out))) (fun hn_ => (Kd.freshB (bk BK218.out) k_ hn_)))) (below_size (by repeat (first | (with_reducible first | exact HB.out | apply bA | apply bN | apply bD | refine bS ?_ ‹_›) | exact HB.out)))); have HO226 := Aside0.mk (Kd.V_lower (Kd.V_mono (ok' := fun k_ => k_ ≠ gb218) ho1 (fun k_ hk_ => Or.elim hk_ (fun hs_ => Or.elim hs_ (fun hs_ => fun e_ => Nat.not_le.2 hs_ (by rw [e_]; exact GW218.out)) (fun hs_ => fun e_ => Nat.not_le.2 hs_ (by rw [e_]; exact GW218.out))) (fun hn_ => (Kd.freshB (bk BK218.out) k_ hn_)))) (below_size (by repeat (first | (with_reducible first | exact HB.out | apply bA | apply bN | apply bD | refine bS ?_ ‹_›) | exact HB.out)))); replace BK218 := bb BK218 hb; replace HB := Aside0.mk (below_step (by repeat (first | (with_reducible first | exact HB.out | apply bA | apply bN | apply bD | refine bS ?_ ‹_›) | exact HB.out)) hb); (try clear hb); (try clear hb2); (try clear hk); (try clear hi); (try clear ho0); (try clear ho1)) | ((with_reducible refine gate_dst (N := 7) rfl ?_); (try (refine gate_guard (by rfl) ?_; dsimp only)); refine box_event ?hg (N := 7) ?hd (cs := #[.slice none 0 0, .slice none 0 0]) (t := 25) ?hr ?_; (case hd => rfl); (case hg => rfl); (case hr => first | (go_simp; done) | (go_simp; rfl)); intro gb232 hg w122 hbox hb; have BK232 := Aside0.mk (hbox); have GW232 := Aside0.mk ((by rw [hg]; exact (below_size (by repeat (first | (with_reducible first | exact HB.out | apply bA | apply bN | apply bD | refine bS ?_ ‹_›) | exact HB.out))) : w.heap.size ≤ gb232)); have GE232 := GW232; have NB218_232 := nl BK218 hg; have NB232_218 := ng BK218 hg; replace HO223 := ve HO223 hg hb; replace HO226 := ve HO226 hg hb; replace BK218 := bb BK218 hb; replace HB := Aside0.mk (below_step (by repeat (first | (with_reducible first | exact HB.out | apply bA | apply bN | apply bD | refine bS ?_ ‹_›) | exact HB.out)) hb); clear hb hbox hg) | ((with_reducible refine gate_dst (N := 8) rfl ?_); (try (refine gate_guard (by rfl) ?_; dsimp only)); refine box_event ?hg (N := 8) ?hd (cs := #[.int .i64 0, .int .i64 0, .int .i64 0, .int .i64 0]) (t := 29) ?hr ?_; (case hd => rfl); (case hg => rfl); (case hr => first | (go_simp; done) | (go_simp; rfl)); intro gb233 hg w123 hbox hb; have BK233 := Aside0.mk (hbox); have GW233 := Aside0.mk ((by rw [hg]; exact (below_size (by repeat (first | (with_reducible first | exact HB.out | apply bA | apply bN | apply bD | refine bS ?_ ‹_›) | exact HB.out))) : w.heap.size ≤ gb233)); have GE233 := GW233; have NB218_233 := nl BK218 hg; have NB233_218 := ng BK218 hg; have NB232_233 := nl BK232 hg; have NB233_232 := ng BK232 hg; replace HO223 := ve HO223 hg hb; replace HO226 := ve HO226 hg hb; replace BK218 := bb BK218 hb; replace BK232 := bb BK232 hb; replace HB := Aside0.mk (below_step (by repeat (first | (with_reducible first | exact HB.out | apply bA | apply bN | apply bD | refine bS ?_ ‹_›) | exact HB.out)) hb); clear hb hbox hg; obtain ⟨Ao124, co124, eo124⟩ := Kd.V_slice HO223.out; subst eo124; have hnb125 := NB232_218.out; have hnc125 := NB218_232.out; have hnb126 := NB232_233.out; have hnc126 := NB233_232.out; have hcz127_0 : w123.cell? ⟨gb232, 0, none⟩ = some (.slice none 0 0) := (blk_cell BK232.out 0).trans rfl; have hcz127_1 : w123.cell? ⟨gb232, 1, none⟩ = some (.slice none 0 0) := (blk_cell BK232.out 1).trans rfl; have hfz127_0 := blk_frozen BK232.out 0; have hfz127_1 := blk_frozen BK232.out 1; obtain ⟨Ao128, co128, eo128⟩ := Kd.V_slice HO226.out; subst eo128; have hnb129 := NB233_218.out; have hnc129 := NB218_233.out; have hcz130_0 : w123.cell? ⟨gb233, 0, none⟩ = some (.int .i64 0) := (blk_cell BK233.out 0).trans rfl; have hcz130_1 : w123.cell? ⟨gb233, 1, none⟩ = some (.int .i64 0) := (blk_cell BK233.out 1).trans rfl; have hcz130_2 : w123.cell? ⟨gb233, 2, none⟩ = some (.int .i64 0) := (blk_cell BK233.out 2).trans rfl; have hcz130_3 : w123.cell? ⟨gb233, 3, none⟩ = some (.int .i64 0) := (blk_cell BK233.out 3).trans rfl; have hfz130_0 := blk_frozen BK233.out 0; have hfz130_1 := blk_frozen BK233.out 1; have hfz130_2 := blk_frozen BK233.out 2; have hfz130_3 := blk_frozen BK233.out 3; have hcz131_0 : w123.cell? ⟨gb218, 0, none⟩ = some (.slice A0_0 l0_0.length c0_0) := (blk_cell BK218.out 0).trans rfl; have hcz131_1 : w123.cell? ⟨gb218, 1, none⟩ = some (.slice A0_1 l0_1.length c0_1) := (blk_cell BK218.out 1).trans rfl; have hfz131_0 := blk_frozen BK218.out 0; have hfz131_1 := blk_frozen BK218.out 1) | (go_at_call 15; (with_reducible refine (interchangeref13_Same.calls k _ _ t221 _ _ t224 _ _ l0_0 _ _ l0_1 true _ ?side1 ?side2 ?side3 ?side4 ?side5 ?side6 ?side7 ?side8 A113.out).mono ?_); (case side1 => refine (Kd.V_reads' (e := 3) (base := w.heap.size) (ok := fun k_ => ((k_ ≠ gb218 ∧ k_ ≠ gb232) ∧ k_ ≠ gb233)) (n := t221.length) (c := co124) ?_).2.2; exact (by (with_reducible repeat (first | apply Kd.V_alloc | apply Kd.V_drewN | apply Kd.V_drew)); exact (Kd.V_mono (Kd.V_mono (Kd.V_far (p := ⟨gb233, 3, none⟩) (Kd.V_far (p := ⟨gb233, 2, none⟩) (Kd.V_far (p := ⟨gb233, 1, none⟩) (Kd.V_far (p := ⟨gb233, 0, none⟩) (Kd.V_far (p := ⟨gb232, 1, none⟩) (Kd.V_far (p := ⟨gb232, 0, none⟩) (Kd.V_mono (Kd.V_mono HO223.out (fun k_ hk => (⟨hk, hk.1.2⟩ : _ ∧ k_ ≠ gb232))) (fun k_ hk => (⟨hk, hk.1.2⟩ : _ ∧ k_ ≠ gb233))) (fun _ hk => hk.1.2) (.slice Ao124 t221.length co124)) (fun _ hk => hk.1.2) (.slice Ao128 t224.length co128)) (fun _ hk => hk.2) (.int .i64 t227)) (fun _ hk => hk.2) (.int .i64 t228)) (fun _ hk => hk.2) (.int .i64 t229)) (fun _ hk => hk.2) (.int .i64 t230)) (fun _ h_ => h_.1)) (fun _ h_ => h_.1)))); (case side2 => exact (Kd.V_reads' HO223.out).2.1); (case side3 => refine (Kd.V_reads' (e := 29) (base := w.heap.size) (ok := fun k_ => ((k_ ≠ gb218 ∧ k_ ≠ gb232) ∧ k_ ≠ gb233)) (n := t224.length) (c := co128) ?_).2.2; exact (by (with_reducible repeat (first | apply Kd.V_alloc | apply Kd.V_drewN | apply Kd.V_drew)); exact (Kd.V_mono (Kd.V_mono (Kd.V_far (p := ⟨gb233, 3, none⟩) (Kd.V_far (p := ⟨gb233, 2, none⟩) (Kd.V_far (p := ⟨gb233, 1, none⟩) (Kd.V_far (p := ⟨gb233, 0, none⟩) (Kd.V_far (p := ⟨gb232, 1, none⟩) (Kd.V_far (p := ⟨gb232, 0, none⟩) (Kd.V_mono (Kd.V_mono HO226.out (fun k_ hk => (⟨hk, hk.1.2⟩ : _ ∧ k_ ≠ gb232))) (fun k_ hk => (⟨hk, hk.1.2⟩ : _ ∧ k_ ≠ gb233))) (fun _ hk => hk.1.2) (.slice Ao124 t221.length co124)) (fun _ hk => hk.1.2) (.slice Ao128 t224.length co128)) (fun _ hk => hk.2) (.int .i64 t227)) (fun _ hk => hk.2) (.int .i64 t228)) (fun _ hk => hk.2) (.int .i64 t229)) (fun _ hk => hk.2) (.int .i64 t230)) (fun _ h_ => h_.1)) (fun _ h_ => h_.1)))); (case side4 => exact (Kd.V_reads' HO226.out).2.1); (case side5 => exact Kd.C_below HR0_0.out (by repeat (first | (with_reducible first | exact HB.out | apply bA | apply bN | apply bD | refine bS ?_ ‹_›) | exact HB.out))); (case side6 => exact HC0_0.out); (case side7 => exact Kd.C_below HR0_1.out (by repeat (first | (with_reducible first | exact HB.out | apply bA | apply bN | apply bD | refine bS ?_ ‹_›) | exact HB.out))); (case side8 => exact HC0_1.out); rintro e w132 ⟨rfl, hb⟩; replace HO223 := Aside0.mk (Kd.V_below (by (with_reducible repeat (first | apply Kd.V_alloc | apply Kd.V_drewN | apply Kd.V_drew)); exact (Kd.V_mono (Kd.V_mono (Kd.V_far (p := ⟨gb233, 3, none⟩) (Kd.V_far (p := ⟨gb233, 2, none⟩) (Kd.V_far (p := ⟨gb233, 1, none⟩) (Kd.V_far (p := ⟨gb233, 0, none⟩) (Kd.V_far (p := ⟨gb232, 1, none⟩) (Kd.V_far (p := ⟨gb232, 0, none⟩) (Kd.V_mono (Kd.V_mono HO223.out (fun k_ hk => (⟨hk, hk.1.2⟩ : _ ∧ k_ ≠ gb232))) (fun k_ hk => (⟨hk, hk.1.2⟩ : _ ∧ k_ ≠ gb233))) (fun _ hk => hk.1.2) (.slice Ao124 t221.length co124)) (fun _ hk => hk.1.2) (.slice Ao128 t224.length co128)) (fun _ hk => hk.2) (.int .i64 t227)) (fun _ hk => hk.2) (.int .i64 t228)) (fun _ hk => hk.2) (.int .i64 t229)) (fun _ hk => hk.2) (.int .i64 t230)) (fun _ h_ => h_.1)) (fun _ h_ => h_.1))) hb); replace HO226 := Aside0.mk (Kd.V_below (by (with_reducible repeat (first | apply Kd.V_alloc | apply Kd.V_drewN | apply Kd.V_drew)); exact (Kd.V_mono (Kd.V_mono (Kd.V_far (p := ⟨gb233, 3, none⟩) (Kd.V_far (p := ⟨gb233, 2, none⟩) (Kd.V_far (p := ⟨gb233, 1, none⟩) (Kd.V_far (p := ⟨gb233, 0, none⟩) (Kd.V_far (p := ⟨gb232, 1, none⟩) (Kd.V_far (p := ⟨gb232, 0, none⟩) (Kd.V_mono (Kd.V_mono HO226.out (fun k_ hk => (⟨hk, hk.1.2⟩ : _ ∧ k_ ≠ gb232))) (fun k_ hk => (⟨hk, hk.1.2⟩ : _ ∧ k_ ≠ gb233))) (fun _ hk => hk.1.2) (.slice Ao124 t221.length co124)) (fun _ hk => hk.1.2) (.slice Ao128 t224.length co128)) (fun _ hk => hk.2) (.int .i64 t227)) (fun _ hk => hk.2) (.int .i64 t228)) (fun _ hk => hk.2) (.int .i64 t229)) (fun _ hk => hk.2) (.int .i64 t230)) (fun _ h_ => h_.1)) (fun _ h_ => h_.1))) hb); replace BK218 := Aside0.mk (blk_below (g := gb218) (o := .cells #[.slice A0_0 l0_0.length c0_0, .slice A0_1 l0_1.length c0_1] 25 (0, 0)) (by (with_reducible repeat (first | refine blk_drewN ?_ _ | refine blk_drew ?_ | refine blk_alloc ?_ _)); refine blk_far ?_ NB218_233.out _; (with_reducible repeat (first | refine blk_drewN ?_ _ | refine blk_drew ?_ | refine blk_alloc ?_ _)); refine blk_far ?_ NB218_233.out _; (with_reducible repeat (first | refine blk_drewN ?_ _ | refine blk_drew ?_ | refine blk_alloc ?_ _)); refine blk_far ?_ NB218_233.out _; (with_reducible repeat (first | refine blk_drewN ?_ _ | refine blk_drew ?_ | refine blk_alloc ?_ _)); refine blk_far ?_ NB218_233.out _; (with_reducible repeat (first | refine blk_drewN ?_ _ | refine blk_drew ?_ | refine blk_alloc ?_ _)); refine blk_far ?_ NB218_232.out _; (with_reducible repeat (first | refine blk_drewN ?_ _ | refine blk_drew ?_ | refine blk_alloc ?_ _)); refine blk_far ?_ NB218_232.out _; (with_reducible repeat (first | refine blk_drewN ?_ _ | refine blk_drew ?_ | refine blk_alloc ?_ _)); exact BK218.out) hb); replace BK232 := Aside0.mk (blk_below (g := gb232) (o := .cells #[.slice Ao124 t221.length co124, .slice Ao128 t224.length co128] 25 (0, 0)) (by (with_reducible repeat (first | refine blk_drewN ?_ _ | refine blk_drew ?_ | refine blk_alloc ?_ _)); refine blk_far ?_ NB232_233.out _; (with_reducible repeat (first | refine blk_drewN ?_ _ | refine blk_drew ?_ | refine blk_alloc ?_ _)); refine blk_far ?_ NB232_233.out _; (with_reducible repeat (first | refine blk_drewN ?_ _ | refine blk_drew ?_ | refine blk_alloc ?_ _)); refine blk_far ?_ NB232_233.out _; (with_reducible repeat (first | refine blk_drewN ?_ _ | refine blk_drew ?_ | refine blk_alloc ?_ _)); refine blk_far ?_ NB232_233.out _; (with_reducible repeat (first | refine blk_drewN ?_ _ | refine blk_drew ?_ | refine blk_alloc ?_ _)); refine blk_put (cs := #[.slice Ao124 t221.length co124, .slice none 0 0]) ?_ 1 _ rfl; (with_reducible repeat (first | refine blk_drewN ?_ _ | refine blk_drew ?_ | refine blk_alloc ?_ _)); refine blk_put (cs := #[.slice none 0 0, .slice none 0 0]) ?_ 0 _ rfl; (with_reducible repeat (first | refine blk_drewN ?_ _ | refine blk_drew ?_ | refine blk_alloc ?_ _)); exact BK232.out) hb); replace BK233 := Aside0.mk (blk_below (g := gb233) (o := .cells #[.int .i64 t227, .int .i64 t228, .int .i64 t229, .int .i64 t230] 29 (0, 0)) (by (with_reducible repeat (first | refine blk_drewN ?_ _ | refine blk_drew ?_ | refine blk_alloc ?_ _)); refine blk_put (cs := #[.int .i64 t227, .int .i64 t228, .int .i64 t229, .int .i64 0]) ?_ 3 _ rfl; (with_reducible repeat (first | refine blk_drewN ?_ _ | refine blk_drew ?_ | refine blk_alloc ?_ _)); refine blk_put (cs := #[.int .i64 t227, .int .i64 t228, .int .i64 0, .int .i64 0]) ?_ 2 _ rfl; (with_reducible repeat (first | refine blk_drewN ?_ _ | refine blk_drew ?_ | refine blk_alloc ?_ _)); refine blk_put (cs := #[.int .i64 t227, .int .i64 0, .int .i64 0, .int .i64 0]) ?_ 1 _ rfl; (with_reducible repeat (first | refine blk_drewN ?_ _ | refine blk_drew ?_ | refine blk_alloc ?_ _)); refine blk_put (cs := #[.int .i64 0, .int .i64 0, .int .i64 0, .int .i64 0]) ?_ 0 _ rfl; (with_reducible repeat (first | refine blk_drewN ?_ _ | refine blk_drew ?_ | refine blk_alloc ?_ _)); refine blk_far ?_ NB233_232.out _; (with_reducible repeat (first | refine blk_drewN ?_ _ | refine blk_drew ?_ | refine blk_alloc ?_ _)); refine blk_far ?_ NB233_232.out _; (with_reducible repeat (first | refine blk_drewN ?_ _ | refine blk_drew ?_ | refine blk_alloc ?_ _)); exact BK233.out) hb); replace HB := Aside0.mk (below_step (by repeat (first | (with_reducible first | exact HB.out | apply bA | apply bN | apply bD | refine bS ?_ ‹_›) | exact HB.out)) hb); (try clear hb); (try clear hb2); (try clear hk); (try clear hi); have hcz133_0 : w132.cell? ⟨gb233, 0, none⟩ = some (.int .i64 t227) := (blk_cell BK233.out 0).trans rfl; have hcz133_1 : w132.cell? ⟨gb233, 1, none⟩ = some (.int .i64 t228) := (blk_cell BK233.out 1).trans rfl; have hcz133_2 : w132.cell? ⟨gb233, 2, none⟩ = some (.int .i64 t229) := (blk_cell BK233.out 2).trans rfl; have hcz133_3 : w132.cell? ⟨gb233, 3, none⟩ = some (.int .i64 t230) := (blk_cell BK233.out 3).trans rfl; have hfz133_0 := blk_frozen BK233.out 0; have hfz133_1 := blk_frozen BK233.out 1; have hfz133_2 := blk_frozen BK233.out 2; have hfz133_3 := blk_frozen BK233.out 3))
     go_ret
     exact ⟨by first | rfl | (simp [errW_none, errW_some] <;> rfl) | (simp [*, errW_none, errW_some] <;> rfl) | (exfalso; simp only [decide_eq_true_eq, decide_eq_false_iff_not, beq_iff_eq, bne_iff_ne, ne_eq, beq_eq_false_iff_ne, bne_eq_false_iff_eq] at *; omega), by repeat (first | (with_reducible first | exact HB.out | apply below_alloc | apply pw_below_drewN | apply below_drew1 | refine below_set ?_ GE218.out | refine below_set ?_ GE232.out | refine below_set ?_ GE233.out) | exact HB.out)⟩
    ·
     rw [if_neg c115] at H
     exact absurd ((Option.some.inj H).trans hT_.out) (by decide)
   ·
    replace c114 := Bool.eq_false_iff.mpr c114
    subst c114
    have H1 : (some false) = some r := by rw [if_neg (show ¬ (false = true) by decide)] at H; exact H
    clear H
    have H := H1
    clear H1
    exact absurd ((Option.some.inj H).trans hT_.out) (by decide)
 ·
  replace c5 := Bool.eq_false_iff.mpr c5
  subst c5
  have H1 : (some true) = some r := by rw [if_neg (show ¬ (false = true) by decide)] at H; exact H
  clear H
  have H := H1
  clear H1
  obtain rfl := Option.some.inj H
  go_enter Try.func4, Try.ntmps4
  go_wp2_with (first | ((with_reducible refine gate_dst (N := 2) rfl ?_); (try (refine gate_guard (by rfl) ?_; dsimp only)); refine box_event ?hg (N := 2) ?hd (cs := #[.slice A0_0 l0_0.length c0_0, .slice A0_1 l0_1.length c0_1]) (t := 25) ?hr ?_; (case hd => rfl); (case hg => rfl); (case hr => first | (go_simp; done) | (go_simp; rfl)); intro gb218 hg w134 hbox hb; have BK218 := Aside0.mk (hbox); have GW218 := Aside0.mk ((by rw [hg]; exact (below_size (bl HB.out)) : w.heap.size ≤ gb218)); have GE218 := GW218; replace HB := hs HB hb; clear hb hbox hg) | ((with_reducible refine gate_callee (f := 10) rfl ?_); refine goesL_ (some 17) rfl rfl Try.func10 (by kernel_rfl) rfl #[] rfl (by (try simp only [List.map_toArray, List.map_cons, List.map_nil]); first | done | rfl | (simp only [List.length_drop, List.length_take]; rfl)) ?_; (with_reducible refine (interchangelaw13_shown.calls k  true _ ⟨rfl⟩ A3.out).mono ?_); rintro e w135 ⟨rfl, hb⟩; refine ⟨_, rfl, ?_⟩; replace BK218 := bb BK218 hb; replace HB := Aside0.mk (below_step (by repeat (first | (with_reducible first | exact HB.out | apply bA | apply bN | apply bD | refine bS ?_ ‹_›) | exact HB.out)) hb); (try clear hb); (try clear hb2); (try clear hk); (try clear hi); have hcz136_0 : w135.cell? ⟨gb218, 0, none⟩ = some (.slice A0_0 l0_0.length c0_0) := (blk_cell BK218.out 0).trans rfl; have hcz136_1 : w135.cell? ⟨gb218, 1, none⟩ = some (.slice A0_1 l0_1.length c0_1) := (blk_cell BK218.out 1).trans rfl; have hfz136_0 := blk_frozen BK218.out 0; have hfz136_1 := blk_frozen BK218.out 1) | ((with_reducible refine gate_callee (f := 11) rfl ?_); refine goesL_ (some 19) rfl rfl Try.func11 (by kernel_rfl) rfl #[.agg #[.slice A0_0 l0_0.length c0_0, .slice A0_1 l0_1.length c0_1]] rfl (by (try simp only [List.map_toArray, List.map_cons, List.map_nil]); first | done | rfl | (simp only [List.length_drop, List.length_take]; rfl)) ?_; (with_reducible refine (interchangelaw13_few.calls k _ _ l0_0 _ _ l0_1 false _ ?side1 ?side2 ?side3 ?side4 A4.out).mono ?_); (case side1 => exact ck (Kd.C_below HR0_0.out HB.out)); (case side2 => exact HC0_0.out); (case side3 => exact ck (Kd.C_below HR0_1.out HB.out)); (case side4 => exact HC0_1.out); rintro e w137 ⟨rfl, hb⟩; refine ⟨_, rfl, ?_⟩; replace BK218 := bb BK218 hb; replace HB := Aside0.mk (below_step (by repeat (first | (with_reducible first | exact HB.out | apply bA | apply bN | apply bD | refine bS ?_ ‹_›) | exact HB.out)) hb); (try clear hb); (try clear hb2); (try clear hk); (try clear hi)))
  go_ret
  exact ⟨by first | rfl | (simp [errW_none, errW_some] <;> rfl) | (simp [*, errW_none, errW_some] <;> rfl) | (exfalso; simp only [decide_eq_true_eq, decide_eq_false_iff_not, beq_iff_eq, bne_iff_ne, ne_eq, beq_eq_false_iff_ne, bne_eq_false_iff_eq] at *; omega), by repeat (first | (with_reducible first | exact HB.out | apply below_alloc | apply pw_below_drewN | apply below_drew1 | refine below_set ?_ GE218.out) | exact HB.out)⟩

end Go.Proofs.Ytgiofigjnchfeaa.Q
