/- This text was written by a program of this session: what each Go function computes, as a Lean function, and that its call does so. -/
import Derived.Test.YtngbkagamhakiaaQ0
import Derived.Test.YtngbkagamhakiaaQ13
import Derived.Test.YtngbkagamhakiaaQ9
import Derived.Test.YtngbkagamhakiaaH9
import Derived.Test.YtngbkagamhakiaaH12
import Derived.Test.YtngbkagamhakiaaH14
namespace Go.Proofs.Ytngbkagamhakiaa.Q
open Go.RowKit Go.Proofs.YtngbkagamhakiaaW.PrintWords Go.Proofs.YtngbkagamhakiaaW.PrintLast Go.Proofs.YtngbkagamhakiaaW.PrintMore
attribute [local go_sem] max2_int min2_int max_two min_two max_three min_three max_four min_four   -- for this text's walks alone
set_option linter.unusedVariables false
set_option linter.unusedSimpArgs false

/-! ### interchangelaw16_SeqAnswers: function 5 -/
mutual
def interchangelaw16_SeqAnswers.j0 : Nat → Bool → List Int → Int → Bool → Bool → Bool → Bool → Int → Int → List Int → Option (Bool)
  | 0, _, _, _, _, _, _, _, _, _, _ => none
  | k + 1, x7, x10, x12, x13, x14, x44, x238000, x238001, x238002, x238003 => if x44 = true then (if x7 = true then (some (!x13)) else (some false)) else (interchangelaw16_SeqAnswers.l0 k x7 x10 x12 x13 x14 0 0 x238000 x238001 x238002 x238003)
def interchangelaw16_SeqAnswers.l0 : Nat → Bool → List Int → Int → Bool → Bool → Int → Int → Bool → Int → Int → List Int → Option (Bool)
  | 0, _, _, _, _, _, _, _, _, _, _, _ => none
  | k + 1, x7, x10, x12, x13, x14, x15, x16, x238000, x238001, x238002, x238003 => if x16 < (x238003.length : Int) then (if 0 ≤ x16 then (if (rd x238003 x16) = x12 then (interchangelaw16_SeqAnswers.l0 k x7 x10 x12 x13 x14 (wrap64 (x15 + 1)) (wrap64 (x16 + 1)) x238000 x238001 x238002 x238003) else (if x14 = true then (if (rd x238003 x16) < x12 then (interchangelaw16_SeqAnswers.l0 k x7 x10 x12 x13 x14 (wrap64 (x15 + 1)) (wrap64 (x16 + 1)) x238000 x238001 x238002 x238003) else (interchangelaw16_SeqAnswers.l0 k x7 x10 x12 x13 x14 x15 (wrap64 (x16 + 1)) x238000 x238001 x238002 x238003)) else (interchangelaw16_SeqAnswers.l0 k x7 x10 x12 x13 x14 x15 (wrap64 (x16 + 1)) x238000 x238001 x238002 x238003))) else (none)) else (if x7 = true then (if x13 = true then (if x15 = (x10.length : Int) then (some (x14 == (decide ((x10.length : Int) > 1)))) else (some false)) else (some false)) else (some false))
end
def interchangelaw16_SeqAnswers.f (k : Nat) (a0_0 : Bool) (a0_1 : Int) (a0_2 : Int) (l0_3 : List Int) (a1 : Int) (a2 : Bool) : Option (Bool) := (interchangelaw16_shown.f).bind fun t238 => ((interchangeref16_Right.f k a0_0 a0_1 a0_2 l0_3).bind fun t239 => (if t239 = true then ((seq_Confirm.f a0_0 a0_1 a0_2 l0_3 a1 a2).bind fun bt240 => ((seq_Answer.f bt240.2.2.2.2.1 bt240.1 bt240.2.1 bt240.2.2.1 bt240.2.2.2.1).bind fun bt251 => (if bt240.2.2.2.2.2 = 0 then (interchangelaw16_SeqAnswers.j0 k true bt240.2.2.2.2.1 bt251.1 bt251.2.1 bt251.2.2 ((bt240.2.2.2.2.1.length : Int) == 0) a0_0 a0_1 a0_2 l0_3) else (interchangelaw16_SeqAnswers.j0 k true bt240.2.2.2.2.1 bt251.1 bt251.2.1 bt251.2.2 true a0_0 a0_1 a0_2 l0_3)))) else (some true)))
theorem interchangelaw16_SeqAnswers.mono_l : ∀ k, (∀ y0 y1 y2 y3 y4 y5 y6 y7 y8 y9, LeO (interchangelaw16_SeqAnswers.j0 k y0 y1 y2 y3 y4 y5 y6 y7 y8 y9) (interchangelaw16_SeqAnswers.j0 (k + 1) y0 y1 y2 y3 y4 y5 y6 y7 y8 y9)) ∧ (∀ y0 y1 y2 y3 y4 y5 y6 y7 y8 y9 y10, LeO (interchangelaw16_SeqAnswers.l0 k y0 y1 y2 y3 y4 y5 y6 y7 y8 y9 y10) (interchangelaw16_SeqAnswers.l0 (k + 1) y0 y1 y2 y3 y4 y5 y6 y7 y8 y9 y10))
  | 0 => ⟨fun _ _ _ _ _ _ _ _ _ _ r h => by simp [interchangelaw16_SeqAnswers.j0] at h, fun _ _ _ _ _ _ _ _ _ _ _ r h => by simp [interchangelaw16_SeqAnswers.l0] at h⟩
  | k + 1 => by
    obtain ⟨ih0, ih1⟩ := interchangelaw16_SeqAnswers.mono_l k
    refine ⟨?_, ?_⟩
    · intro y0 y1 y2 y3 y4 y5 y6 y7 y8 y9
      unfold interchangelaw16_SeqAnswers.j0
      repeat' first
      | (with_reducible exact ih0 _ _ _ _ _ _ _ _ _ _)
      | (with_reducible exact ih1 _ _ _ _ _ _ _ _ _ _ _)
      | (with_reducible exact interchangeref16_Right.mono _ _ _ _ _)
      | (with_reducible exact LeO.refl _)
      | (with_reducible exact LeO.none _)
      | (with_reducible refine LeO.ite ?_ ?_)
      | (with_reducible refine LeO.bind ?_ (fun _ => ?_))
      | exact ih0 _ _ _ _ _ _ _ _ _ _
      | exact ih1 _ _ _ _ _ _ _ _ _ _ _
      | exact interchangeref16_Right.mono _ _ _ _ _
      | exact LeO.none _
      | refine LeO.ite ?_ ?_
      | refine LeO.bind ?_ (fun _ => ?_)
    · intro y0 y1 y2 y3 y4 y5 y6 y7 y8 y9 y10
      unfold interchangelaw16_SeqAnswers.l0
      repeat' first
      | (with_reducible exact ih0 _ _ _ _ _ _ _ _ _ _)
      | (with_reducible exact ih1 _ _ _ _ _ _ _ _ _ _ _)
      | (with_reducible exact interchangeref16_Right.mono _ _ _ _ _)
      | (with_reducible exact LeO.refl _)
      | (with_reducible exact LeO.none _)
      | (with_reducible refine LeO.ite ?_ ?_)
      | (with_reducible refine LeO.bind ?_ (fun _ => ?_))
      | exact ih0 _ _ _ _ _ _ _ _ _ _
      | exact ih1 _ _ _ _ _ _ _ _ _ _ _
      | exact interchangeref16_Right.mono _ _ _ _ _
      | exact LeO.none _
      | refine LeO.ite ?_ ?_
      | refine LeO.bind ?_ (fun _ => ?_)
theorem interchangelaw16_SeqAnswers.mono : ∀ a0 a1 a2 a3 a4 a5 k, LeO (interchangelaw16_SeqAnswers.f k a0 a1 a2 a3 a4 a5) (interchangelaw16_SeqAnswers.f (k + 1) a0 a1 a2 a3 a4 a5) := by
  intro a0 a1 a2 a3 a4 a5 k
  obtain ⟨ih0, ih1⟩ := interchangelaw16_SeqAnswers.mono_l k
  unfold interchangelaw16_SeqAnswers.f
  repeat' first
      | (with_reducible exact ih0 _ _ _ _ _ _ _ _ _ _)
      | (with_reducible exact ih1 _ _ _ _ _ _ _ _ _ _ _)
      | (with_reducible exact interchangeref16_Right.mono _ _ _ _ _)
      | (with_reducible exact LeO.refl _)
      | (with_reducible exact LeO.none _)
      | (with_reducible refine LeO.ite ?_ ?_)
      | (with_reducible refine LeO.bind ?_ (fun _ => ?_))
      | exact ih0 _ _ _ _ _ _ _ _ _ _
      | exact ih1 _ _ _ _ _ _ _ _ _ _ _
      | exact interchangeref16_Right.mono _ _ _ _ _
      | exact LeO.none _
      | refine LeO.ite ?_ ?_
      | refine LeO.bind ?_ (fun _ => ?_)
set_option maxHeartbeats 8000000 in
set_option maxRecDepth 100000 in
theorem interchangelaw16_SeqAnswers.calls (k : Nat) (a0_0 : Bool) (a0_1 : Int) (a0_2 : Int) (A0_3 : Option Addr) (c0_3 : Nat) (l0_3 : List Int) (a1 : Int) (a2 : Bool) (r : Bool) (w : World) (hr0_3 : Kd.C (Kd.int .u64) w A0_3 l0_3.length l0_3) (hc0_3 : l0_3.length ≤ c0_3) (hT_ : Aside0 (r = true)) (h : interchangelaw16_SeqAnswers.f k a0_0 a0_1 a0_2 l0_3 a1 a2 = some r) :
    Calls Try.prog 5 #[.agg #[.bool a0_0, .int .u64 a0_1, .int .u64 a0_2, .slice A0_3 l0_3.length c0_3], .int .u64 a1, .bool a2] w fun e w' => e = .returned (.bool r) ∧ Below w.heap.size w w' := by
  have hu26 := Try.underlying26
  have HR0_3 := Aside0.mk hr0_3
  have HC0_3 := Aside0.mk hc0_3
  clear hr0_3 hc0_3
  have HB := Aside0.mk (Below.refl w.heap.size w)
  have H : ((interchangelaw16_shown.f).bind fun t238 => ((interchangeref16_Right.f k a0_0 a0_1 a0_2 l0_3).bind fun t239 => (if t239 = true then ((seq_Confirm.f a0_0 a0_1 a0_2 l0_3 a1 a2).bind fun bt240 => ((seq_Answer.f bt240.2.2.2.2.1 bt240.1 bt240.2.1 bt240.2.2.1 bt240.2.2.2.1).bind fun bt251 => (if bt240.2.2.2.2.2 = 0 then (interchangelaw16_SeqAnswers.j0 k true bt240.2.2.2.2.1 bt251.1 bt251.2.1 bt251.2.2 ((bt240.2.2.2.2.1.length : Int) == 0) a0_0 a0_1 a0_2 l0_3) else (interchangelaw16_SeqAnswers.j0 k true bt240.2.2.2.2.1 bt251.1 bt251.2.1 bt251.2.2 true a0_0 a0_1 a0_2 l0_3)))) else (some true)))) = some r := h
  clear h
  replace H := Option.bind_eq_some_iff.mp H
  obtain ⟨t238, A40, H⟩ := H
  replace H : ((interchangeref16_Right.f k a0_0 a0_1 a0_2 l0_3).bind fun t239 => (if t239 = true then ((seq_Confirm.f a0_0 a0_1 a0_2 l0_3 a1 a2).bind fun bt240 => ((seq_Answer.f bt240.2.2.2.2.1 bt240.1 bt240.2.1 bt240.2.2.1 bt240.2.2.2.1).bind fun bt251 => (if bt240.2.2.2.2.2 = 0 then (interchangelaw16_SeqAnswers.j0 k true bt240.2.2.2.2.1 bt251.1 bt251.2.1 bt251.2.2 ((bt240.2.2.2.2.1.length : Int) == 0) a0_0 a0_1 a0_2 l0_3) else (interchangelaw16_SeqAnswers.j0 k true bt240.2.2.2.2.1 bt251.1 bt251.2.1 bt251.2.2 true a0_0 a0_1 a0_2 l0_3)))) else (some true))) = some r := H
  obtain rfl : true = t238 := Option.some.inj (interchangelaw16_shown_true.symm.trans A40)
  have A4 := Aside0.mk A40
  clear A40
  replace H := Option.bind_eq_some_iff.mp H
  obtain ⟨t239, A50, H⟩ := H
  replace H : (if t239 = true then ((seq_Confirm.f a0_0 a0_1 a0_2 l0_3 a1 a2).bind fun bt240 => ((seq_Answer.f bt240.2.2.2.2.1 bt240.1 bt240.2.1 bt240.2.2.1 bt240.2.2.2.1).bind fun bt251 => (if bt240.2.2.2.2.2 = 0 then (interchangelaw16_SeqAnswers.j0 k true bt240.2.2.2.2.1 bt251.1 bt251.2.1 bt251.2.2 ((bt240.2.2.2.2.1.length : Int) == 0) a0_0 a0_1 a0_2 l0_3) else (interchangelaw16_SeqAnswers.j0 k true bt240.2.2.2.2.1 bt251.1 bt251.2.1 bt251.2.2 true a0_0 a0_1 a0_2 l0_3)))) else (some true)) = some r := H
  have A5 := Aside0.mk A50
  clear A50
  by_cases c6 : t239 = true
  · subst c6
    have H1 : ((seq_Confirm.f a0_0 a0_1 a0_2 l0_3 a1 a2).bind fun bt240 => ((seq_Answer.f bt240.2.2.2.2.1 bt240.1 bt240.2.1 bt240.2.2.1 bt240.2.2.2.1).bind fun bt251 => (if bt240.2.2.2.2.2 = 0 then (interchangelaw16_SeqAnswers.j0 k true bt240.2.2.2.2.1 bt251.1 bt251.2.1 bt251.2.2 ((bt240.2.2.2.2.1.length : Int) == 0) a0_0 a0_1 a0_2 l0_3) else (interchangelaw16_SeqAnswers.j0 k true bt240.2.2.2.2.1 bt251.1 bt251.2.1 bt251.2.2 true a0_0 a0_1 a0_2 l0_3)))) = some r := by rw [if_pos rfl] at H; exact H
    clear H
    have H := H1
    clear H1
    replace H := Option.bind_eq_some_iff.mp H
    obtain ⟨⟨t240, t241, t242, t243, t246, t249⟩, A70, H⟩ := H
    replace H : ((seq_Answer.f t246 t240 t241 t242 t243).bind fun bt251 => (if t249 = 0 then (interchangelaw16_SeqAnswers.j0 k true t246 bt251.1 bt251.2.1 bt251.2.2 ((t246.length : Int) == 0) a0_0 a0_1 a0_2 l0_3) else (interchangelaw16_SeqAnswers.j0 k true t246 bt251.1 bt251.2.1 bt251.2.2 true a0_0 a0_1 a0_2 l0_3))) = some r := H
    have A7 := Aside0.mk A70
    clear A70
    replace H := Option.bind_eq_some_iff.mp H
    obtain ⟨⟨t251, t252, t253⟩, A80, H⟩ := H
    replace H : (if t249 = 0 then (interchangelaw16_SeqAnswers.j0 k true t246 t251 t252 t253 ((t246.length : Int) == 0) a0_0 a0_1 a0_2 l0_3) else (interchangelaw16_SeqAnswers.j0 k true t246 t251 t252 t253 true a0_0 a0_1 a0_2 l0_3)) = some r := H
    have A8 := Aside0.mk A80
    clear A80
    have HC9 := Aside0.mk H
    clear H
    go_enter Try.func5, Try.ntmps5
    go_upto_region 7 with (first | ((with_reducible refine gate_dst (N := 3) rfl ?_); (try (refine gate_guard (by rfl) ?_; dsimp only)); refine box_event ?hg (N := 3) ?hd (cs := #[.bool a0_0, .int .u64 a0_1, .int .u64 a0_2, .slice A0_3 l0_3.length c0_3]) (t := 26) ?hr ?_; (case hd => rfl); (case hg => rfl); (case hr => first | (go_simp; done) | (go_simp; rfl)); intro gb237 hg w10 hbox hb; have n0_ := Aside0.mk (below_step (by repeat (first | (with_reducible first | exact HB.out | apply below_alloc | apply pw_below_drewN | apply below_drew1) | exact HB.out)) hb); have n1_ := Aside0.mk (hbox); have n2_ := Aside0.mk ((by rw [hg]; exact (below_size (by repeat (first | (with_reducible first | exact HB.out | apply below_alloc | apply pw_below_drewN | apply below_drew1) | exact HB.out))) : w.heap.size ≤ gb237)); have n3_ := Aside0.mk ((by rw [hg]; exact (below_size (by repeat (first | (with_reducible first | exact HB.out | apply below_alloc | apply pw_below_drewN | apply below_drew1) | exact HB.out))) : w.heap.size ≤ gb237)); clear HB; have HB := n0_; have BK237 := n1_; have GW237 := n2_; have GE237 := n3_; clear n0_ n1_ n2_ n3_; clear hb hbox hg) | ((with_reducible refine gate_callee (f := 9) rfl ?_); refine goesL_ (some 17) rfl rfl Try.func9 (by kernel_rfl) rfl #[] rfl (by (try simp only [List.map_toArray, List.map_cons, List.map_nil]); first | done | rfl | (simp only [List.length_drop, List.length_take]; rfl)) ?_; (with_reducible refine (interchangelaw16_shown.calls true _ ⟨rfl⟩ A4.out).mono ?_); rintro e w11 ⟨rfl, hb⟩; refine ⟨_, rfl, ?_⟩; have n0_ := Aside0.mk (blk_below (g := gb237) (o := .cells #[.bool a0_0, .int .u64 a0_1, .int .u64 a0_2, .slice A0_3 l0_3.length c0_3] 26 (0, 0)) (by (with_reducible repeat (first | refine blk_drewN ?_ _ | refine blk_drew ?_ | refine blk_alloc ?_ _)); exact BK237.out) hb); have n1_ := Aside0.mk (below_step (by repeat (first | (with_reducible first | exact HB.out | apply below_alloc | apply pw_below_drewN | apply below_drew1 | refine below_set ?_ GE237.out) | exact HB.out)) hb); clear BK237; clear HB; have BK237 := n0_; have HB := n1_; clear n0_ n1_; (try clear hb); (try clear hb2); (try clear hk); (try clear hi); have hcz12_0 : w11.cell? ⟨gb237, 0, none⟩ = some (.bool a0_0) := (blk_cell BK237.out 0).trans rfl; have hcz12_1 : w11.cell? ⟨gb237, 1, none⟩ = some (.int .u64 a0_1) := (blk_cell BK237.out 1).trans rfl; have hcz12_2 : w11.cell? ⟨gb237, 2, none⟩ = some (.int .u64 a0_2) := (blk_cell BK237.out 2).trans rfl; have hcz12_3 : w11.cell? ⟨gb237, 3, none⟩ = some (.slice A0_3 l0_3.length c0_3) := (blk_cell BK237.out 3).trans rfl; have hfz12_0 := blk_frozen BK237.out 0; have hfz12_1 := blk_frozen BK237.out 1; have hfz12_2 := blk_frozen BK237.out 2; have hfz12_3 := blk_frozen BK237.out 3) | ((with_reducible refine gate_callee (f := 13) rfl ?_); refine goesL_ (some 19) rfl rfl Try.func13 (by kernel_rfl) rfl #[.agg #[.bool a0_0, .int .u64 a0_1, .int .u64 a0_2, .slice A0_3 l0_3.length c0_3]] rfl (by (try simp only [List.map_toArray, List.map_cons, List.map_nil]); first | done | rfl | (simp only [List.length_drop, List.length_take]; rfl)) ?_; (with_reducible refine (interchangeref16_Right.calls k a0_0 a0_1 a0_2 _ _ l0_3 true _ ?side1 ?side2 A5.out).mono ?_); (case side1 => repeat (first | exact (Kd.C_below HR0_3.out HB.out) | (with_reducible refine Kd.C_alloc ?_ _) | (with_reducible refine Kd.C_drewN ?_ _) | (with_reducible refine Kd.C_drew ?_))); (case side2 => exact HC0_3.out); rintro e w13 ⟨rfl, hb⟩; refine ⟨_, rfl, ?_⟩; have n0_ := Aside0.mk (blk_below (g := gb237) (o := .cells #[.bool a0_0, .int .u64 a0_1, .int .u64 a0_2, .slice A0_3 l0_3.length c0_3] 26 (0, 0)) (by (with_reducible repeat (first | refine blk_drewN ?_ _ | refine blk_drew ?_ | refine blk_alloc ?_ _)); exact BK237.out) hb); have n1_ := Aside0.mk (below_step (by repeat (first | (with_reducible first | exact HB.out | apply below_alloc | apply pw_below_drewN | apply below_drew1 | refine below_set ?_ GE237.out) | exact HB.out)) hb); clear BK237; clear HB; have BK237 := n0_; have HB := n1_; clear n0_ n1_; (try clear hb); (try clear hb2); (try clear hk); (try clear hi); have hcz14_0 : w13.cell? ⟨gb237, 0, none⟩ = some (.bool a0_0) := (blk_cell BK237.out 0).trans rfl; have hcz14_1 : w13.cell? ⟨gb237, 1, none⟩ = some (.int .u64 a0_1) := (blk_cell BK237.out 1).trans rfl; have hcz14_2 : w13.cell? ⟨gb237, 2, none⟩ = some (.int .u64 a0_2) := (blk_cell BK237.out 2).trans rfl; have hcz14_3 : w13.cell? ⟨gb237, 3, none⟩ = some (.slice A0_3 l0_3.length c0_3) := (blk_cell BK237.out 3).trans rfl; have hfz14_0 := blk_frozen BK237.out 0; have hfz14_1 := blk_frozen BK237.out 1; have hfz14_2 := blk_frozen BK237.out 2; have hfz14_3 := blk_frozen BK237.out 3) | ((with_reducible refine gate_callee (f := 12) rfl ?_); refine goesL_ (some 27) rfl rfl Try.func12 (by kernel_rfl) rfl #[.agg #[.bool a0_0, .int .u64 a0_1, .int .u64 a0_2, .slice A0_3 l0_3.length c0_3], .int .u64 a1, .bool a2] rfl (by (try simp only [List.map_toArray, List.map_cons, List.map_nil]); first | done | rfl | (simp only [List.length_drop, List.length_take]; rfl)) ?_; (with_reducible refine (seq_Confirm.calls a0_0 a0_1 a0_2 (fun k_ => k_ < w.heap.size) _ _ l0_3 a1 a2 t240 t241 t242 t243 t246 t249 _ ?side1 A7.out).mono ?_); (case side1 => exact Kd.V_mk HC0_3.out (Kd.F_below (Kd.C_F (Kd.heap_int .u64) HR0_3.out) (by repeat (first | (with_reducible first | exact HB.out | apply below_alloc | apply pw_below_drewN | apply below_drew1 | refine below_set ?_ GE237.out) | exact HB.out)))); rintro e w15 ⟨v244, v247, rfl, ho0, ho1, hb⟩; refine ⟨_, rfl, ?_⟩; have n0_ := Aside0.mk (Kd.V_lower (Kd.V_mono (ok' := fun k_ => some k_ ≠ (v247 : Value).ownBlock ∧ k_ ≠ gb237) ho0 (fun k_ hk_ => ⟨hk_.2, Or.elim hk_.1 (fun hs_ => fun e_ => Nat.not_le.2 hs_ (by rw [e_]; exact GW237.out)) (fun hn_ => (Kd.freshB (g := gb237) (o := .cells #[.bool a0_0, .int .u64 a0_1, .int .u64 a0_2, .slice A0_3 l0_3.length c0_3] 26 (0, 0)) (by (with_reducible repeat (first | refine blk_drewN ?_ _ | refine blk_drew ?_ | refine blk_alloc ?_ _)); exact BK237.out) k_ hn_))⟩)) (below_size (by repeat (first | (with_reducible first | exact HB.out | apply below_alloc | apply pw_below_drewN | apply below_drew1 | refine below_set ?_ GE237.out) | exact HB.out)))); have n1_ := Aside0.mk (Kd.R_lower (Kd.R_mono (ok' := fun k_ => True) ho1 (fun _ hk_ => trivial)) (below_size (by repeat (first | (with_reducible first | exact HB.out | apply below_alloc | apply pw_below_drewN | apply below_drew1 | refine below_set ?_ GE237.out) | exact HB.out)))); have n2_ := Aside0.mk (blk_below (g := gb237) (o := .cells #[.bool a0_0, .int .u64 a0_1, .int .u64 a0_2, .slice A0_3 l0_3.length c0_3] 26 (0, 0)) (by (with_reducible repeat (first | refine blk_drewN ?_ _ | refine blk_drew ?_ | refine blk_alloc ?_ _)); exact BK237.out) hb); have n3_ := Aside0.mk (below_step (by repeat (first | (with_reducible first | exact HB.out | apply below_alloc | apply pw_below_drewN | apply below_drew1 | refine below_set ?_ GE237.out) | exact HB.out)) hb); clear BK237; clear HB; have HO245 := n0_; have HO248 := n1_; have BK237 := n2_; have HB := n3_; clear n0_ n1_ n2_ n3_; (try clear hb); (try clear hb2); (try clear hk); (try clear hi); (try clear ho0); (try clear ho1)) | ((with_reducible refine gate_dst (N := 9) rfl ?_); (try (refine gate_guard (by rfl) ?_; dsimp only)); refine box_event ?hg (N := 9) ?hd (cs := #[.bool false, .int .u64 0, .int .u64 0, .slice none 0 0]) (t := 26) ?hr ?_; (case hd => rfl); (case hg => rfl); (case hr => first | (go_simp; done) | (go_simp; rfl)); intro gb250 hg w16 hbox hb; have n0_ := Aside0.mk (Kd.V_below (Kd.V_elderB (by (with_reducible repeat (first | apply Kd.V_alloc | apply Kd.V_drewN | apply Kd.V_drew)); exact HO245.out) gb250 (Nat.le_of_eq hg.symm)) hb); have n1_ := Aside0.mk (Kd.R_below (by (with_reducible repeat (first | apply Kd.R_alloc | apply Kd.R_drewN | apply Kd.R_drew)); exact HO248.out) hb); have n2_ := Aside0.mk (blk_below (g := gb237) (o := .cells #[.bool a0_0, .int .u64 a0_1, .int .u64 a0_2, .slice A0_3 l0_3.length c0_3] 26 (0, 0)) (by (with_reducible repeat (first | refine blk_drewN ?_ _ | refine blk_drew ?_ | refine blk_alloc ?_ _)); exact BK237.out) hb); have n3_ := Aside0.mk (below_step (by repeat (first | (with_reducible first | exact HB.out | apply below_alloc | apply pw_below_drewN | apply below_drew1 | refine below_set ?_ GE237.out) | exact HB.out)) hb); have n4_ := Aside0.mk (hbox); have n5_ := Aside0.mk ((by rw [hg]; exact (below_size (by repeat (first | (with_reducible first | exact HB.out | apply below_alloc | apply pw_below_drewN | apply below_drew1 | refine below_set ?_ GE237.out) | exact HB.out))) : w.heap.size ≤ gb250)); have n6_ := Aside0.mk ((by rw [hg]; exact (below_size (by repeat (first | (with_reducible first | exact HB.out | apply below_alloc | apply pw_below_drewN | apply below_drew1 | refine below_set ?_ GE237.out) | exact HB.out))) : w.heap.size ≤ gb250)); have n7_ := Aside0.mk ((by rw [hg]; exact Nat.ne_of_lt (blk_lt (g := gb237) (o := .cells #[.bool a0_0, .int .u64 a0_1, .int .u64 a0_2, .slice A0_3 l0_3.length c0_3] 26 (0, 0)) (by (with_reducible repeat (first | refine blk_drewN ?_ _ | refine blk_drew ?_ | refine blk_alloc ?_ _)); exact BK237.out)) : gb237 ≠ gb250)); have n8_ := Aside0.mk ((by rw [hg]; exact Nat.ne_of_gt (blk_lt (g := gb237) (o := .cells #[.bool a0_0, .int .u64 a0_1, .int .u64 a0_2, .slice A0_3 l0_3.length c0_3] 26 (0, 0)) (by (with_reducible repeat (first | refine blk_drewN ?_ _ | refine blk_drew ?_ | refine blk_alloc ?_ _)); exact BK237.out)) : gb250 ≠ gb237)); clear HO245; clear HO248; clear BK237; clear HB; have HO245 := n0_; have HO248 := n1_; have BK237 := n2_; have HB := n3_; have BK250 := n4_; have GW250 := n5_; have GE250 := n6_; have NB237_250 := n7_; have NB250_237 := n8_; clear n0_ n1_ n2_ n3_ n4_ n5_ n6_ n7_ n8_; clear hb hbox hg; have hnb17 := NB250_237.out; have hnc17 := NB237_250.out; have hcz18_0 : w16.cell? ⟨gb250, 0, none⟩ = some (.bool false) := (blk_cell BK250.out 0).trans rfl; have hcz18_1 : w16.cell? ⟨gb250, 1, none⟩ = some (.int .u64 0) := (blk_cell BK250.out 1).trans rfl; have hcz18_2 : w16.cell? ⟨gb250, 2, none⟩ = some (.int .u64 0) := (blk_cell BK250.out 2).trans rfl; have hcz18_3 : w16.cell? ⟨gb250, 3, none⟩ = some (.slice none 0 0) := (blk_cell BK250.out 3).trans rfl; have hfz18_0 := blk_frozen BK250.out 0; have hfz18_1 := blk_frozen BK250.out 1; have hfz18_2 := blk_frozen BK250.out 2; have hfz18_3 := blk_frozen BK250.out 3; obtain ⟨Ao19, co19, eo19⟩ := Kd.V_slice HO245.out; subst eo19; obtain ⟨Ao20, co20, eo20⟩ := Kd.R_slice HO248.out; subst eo20) | ((with_reducible refine gate_callee (f := 14) rfl ?_); refine goesL_ (some 34) rfl rfl Try.func14 (by kernel_rfl) rfl #[.slice Ao20 t246.length co20, .agg #[.bool t240, .int .u64 t241, .int .u64 t242, .slice Ao19 t243.length co19]] rfl (by (try simp only [List.map_toArray, List.map_cons, List.map_nil]); first | done | rfl | (simp only [List.length_drop, List.length_take]; rfl)) ?_; (with_reducible refine (seq_Answer.calls _ _ t246 t240 t241 t242 _ _ t243 t251 t252 t253 _ ?side1 ?side2 ?side3 ?side4 A8.out).mono ?_); (case side1 => refine (Kd.R_reads' (e := 22) (base := w.heap.size) (ok := fun k_ => True) (n := t246.length) (c := co20) ?_).2.2; exact (by (with_reducible repeat (first | apply Kd.R_alloc | apply Kd.R_drewN | apply Kd.R_drew)); exact (Kd.R_mono (Kd.R_far (p := ⟨gb250, 3, none⟩) (Kd.R_far (p := ⟨gb250, 2, none⟩) (Kd.R_far (p := ⟨gb250, 1, none⟩) (Kd.R_far (p := ⟨gb250, 0, none⟩) (Kd.R_types HO248.out BK250.out (by decide)) (fun _ hk => hk.2) (.bool t240)) (fun _ hk => hk.2) (.int .u64 t241)) (fun _ hk => hk.2) (.int .u64 t242)) (fun _ hk => hk.2) (.slice Ao19 t243.length co19)) (fun _ h_ => h_.1)))); (case side2 => exact (Kd.R_reads' HO248.out).2.1); (case side3 => refine (Kd.V_reads' (e := 22) (base := w.heap.size) (ok := fun k_ => ((some k_ ≠ (.slice Ao20 t246.length co20 : Value).ownBlock ∧ k_ ≠ gb237) ∧ k_ ≠ gb250)) (n := t243.length) (c := co19) ?_).2.2; exact (by (with_reducible repeat (first | apply Kd.V_alloc | apply Kd.V_drewN | apply Kd.V_drew)); exact (Kd.V_mono (Kd.V_far (p := ⟨gb250, 3, none⟩) (Kd.V_far (p := ⟨gb250, 2, none⟩) (Kd.V_far (p := ⟨gb250, 1, none⟩) (Kd.V_far (p := ⟨gb250, 0, none⟩) (Kd.V_mono HO245.out (fun k_ hk => (⟨hk, hk.2⟩ : _ ∧ k_ ≠ gb250))) (fun _ hk => hk.2) (.bool t240)) (fun _ hk => hk.2) (.int .u64 t241)) (fun _ hk => hk.2) (.int .u64 t242)) (fun _ hk => hk.2) (.slice Ao19 t243.length co19)) (fun _ h_ => h_.1)))); (case side4 => exact (Kd.V_reads' HO245.out).2.1); rintro e w21 ⟨rfl, hb⟩; refine ⟨_, rfl, ?_⟩; have n0_ := Aside0.mk (Kd.V_below (by (with_reducible repeat (first | apply Kd.V_alloc | apply Kd.V_drewN | apply Kd.V_drew)); exact (Kd.V_mono (Kd.V_far (p := ⟨gb250, 3, none⟩) (Kd.V_far (p := ⟨gb250, 2, none⟩) (Kd.V_far (p := ⟨gb250, 1, none⟩) (Kd.V_far (p := ⟨gb250, 0, none⟩) (Kd.V_mono HO245.out (fun k_ hk => (⟨hk, hk.2⟩ : _ ∧ k_ ≠ gb250))) (fun _ hk => hk.2) (.bool t240)) (fun _ hk => hk.2) (.int .u64 t241)) (fun _ hk => hk.2) (.int .u64 t242)) (fun _ hk => hk.2) (.slice Ao19 t243.length co19)) (fun _ h_ => h_.1))) hb); have n1_ := Aside0.mk (Kd.R_below (by (with_reducible repeat (first | apply Kd.R_alloc | apply Kd.R_drewN | apply Kd.R_drew)); exact (Kd.R_mono (Kd.R_far (p := ⟨gb250, 3, none⟩) (Kd.R_far (p := ⟨gb250, 2, none⟩) (Kd.R_far (p := ⟨gb250, 1, none⟩) (Kd.R_far (p := ⟨gb250, 0, none⟩) (Kd.R_types HO248.out BK250.out (by decide)) (fun _ hk => hk.2) (.bool t240)) (fun _ hk => hk.2) (.int .u64 t241)) (fun _ hk => hk.2) (.int .u64 t242)) (fun _ hk => hk.2) (.slice Ao19 t243.length co19)) (fun _ h_ => h_.1))) hb); have n2_ := Aside0.mk (blk_below (g := gb237) (o := .cells #[.bool a0_0, .int .u64 a0_1, .int .u64 a0_2, .slice A0_3 l0_3.length c0_3] 26 (0, 0)) (by (with_reducible repeat (first | refine blk_drewN ?_ _ | refine blk_drew ?_ | refine blk_alloc ?_ _)); refine blk_far ?_ NB237_250.out _; (with_reducible repeat (first | refine blk_drewN ?_ _ | refine blk_drew ?_ | refine blk_alloc ?_ _)); refine blk_far ?_ NB237_250.out _; (with_reducible repeat (first | refine blk_drewN ?_ _ | refine blk_drew ?_ | refine blk_alloc ?_ _)); refine blk_far ?_ NB237_250.out _; (with_reducible repeat (first | refine blk_drewN ?_ _ | refine blk_drew ?_ | refine blk_alloc ?_ _)); refine blk_far ?_ NB237_250.out _; (with_reducible repeat (first | refine blk_drewN ?_ _ | refine blk_drew ?_ | refine blk_alloc ?_ _)); exact BK237.out) hb); have n3_ := Aside0.mk (blk_below (g := gb250) (o := .cells #[.bool t240, .int .u64 t241, .int .u64 t242, .slice Ao19 t243.length co19] 26 (0, 0)) (by (with_reducible repeat (first | refine blk_drewN ?_ _ | refine blk_drew ?_ | refine blk_alloc ?_ _)); refine blk_put (cs := #[.bool t240, .int .u64 t241, .int .u64 t242, .slice none 0 0]) ?_ 3 _ rfl; (with_reducible repeat (first | refine blk_drewN ?_ _ | refine blk_drew ?_ | refine blk_alloc ?_ _)); refine blk_put (cs := #[.bool t240, .int .u64 t241, .int .u64 0, .slice none 0 0]) ?_ 2 _ rfl; (with_reducible repeat (first | refine blk_drewN ?_ _ | refine blk_drew ?_ | refine blk_alloc ?_ _)); refine blk_put (cs := #[.bool t240, .int .u64 0, .int .u64 0, .slice none 0 0]) ?_ 1 _ rfl; (with_reducible repeat (first | refine blk_drewN ?_ _ | refine blk_drew ?_ | refine blk_alloc ?_ _)); refine blk_put (cs := #[.bool false, .int .u64 0, .int .u64 0, .slice none 0 0]) ?_ 0 _ rfl; (with_reducible repeat (first | refine blk_drewN ?_ _ | refine blk_drew ?_ | refine blk_alloc ?_ _)); exact BK250.out) hb); have n4_ := Aside0.mk (below_step (by repeat (first | (with_reducible first | exact HB.out | apply below_alloc | apply pw_below_drewN | apply below_drew1 | refine below_set ?_ GE237.out | refine below_set ?_ GE250.out) | exact HB.out)) hb); clear HO245; clear HO248; clear BK237; clear BK250; clear HB; have HO245 := n0_; have HO248 := n1_; have BK237 := n2_; have BK250 := n3_; have HB := n4_; clear n0_ n1_ n2_ n3_ n4_; (try clear hb); (try clear hb2); (try clear hk); (try clear hi)))
    (try simp only [Act.put, List.setIfInBounds_toArray, List.set_cons_zero, List.set_cons_succ])
    go_cut [44] (fun v44 wc => ∃ (kq : Nat) (x44_8 : Bool), v44 = .bool x44_8 ∧ Aside0 (interchangelaw16_SeqAnswers.j0 kq true t246 t251 t252 t253 x44_8 a0_0 a0_1 a0_2 l0_3 = some r) ∧ Aside0 (kq ≤ k) ∧ Aside0 (Kd.R (Kd.int .u64) 22 wc w.heap.size (fun _ => True) (.slice Ao20 t246.length co20) t246) ∧ Aside0 (Kd.V (Kd.int .u64) 22 wc w.heap.size (fun k_ => some k_ ≠ ((.slice Ao20 t246.length co20) : Value).ownBlock ∧ k_ ≠ gb237 ∧ k_ ≠ gb250) (.slice Ao19 t243.length co19) t243) ∧ Aside0 (wc.heap[gb237]? = some (.cells #[.bool a0_0, .int .u64 a0_1, .int .u64 a0_2, (.slice A0_3 l0_3.length c0_3)] 26 (0, 0))) ∧ Aside0 (wc.heap[gb250]? = some (.cells #[.bool t240, .int .u64 t241, .int .u64 t242, (.slice Ao19 t243.length co19)] 26 (0, 0))) ∧ Aside0 (Below w.heap.size w wc))
    case first =>
      have H := HC9.out
      clear HC9
      by_cases c22 : t249 = 0
      · rw [if_pos c22] at H
        have c22b0 : (t249 == 0) = true := beq_iff_eq.mpr c22
        have c22b1 : (t249 != 0) = false := bne_eq_false_iff_eq.mpr c22
        clear c22
        (first | rw [c22b0] | (simp only [i64_w, i32_w]; rw [c22b0]) | skip)
        have H' := Aside0.mk H
        clear H
        go_wp2
        go_meet
        case rel => exact ⟨_, (((t246.length : Int) == 0)), (by first | rfl | (simp; done) | (simp [*]; done)), H', ⟨by first | omega | exact Nat.le_refl _⟩, ⟨by (with_reducible repeat (first | apply Kd.R_alloc | apply Kd.R_drewN | apply Kd.R_drew)); exact HO248.out⟩, ⟨by (with_reducible repeat (first | apply Kd.V_alloc | apply Kd.V_drewN | apply Kd.V_drew)); exact Kd.V_mono HO245.out (fun _ hk => ⟨hk.1.1, ⟨hk.1.2, hk.2⟩⟩)⟩, ⟨by (with_reducible repeat (first | refine blk_drewN ?_ _ | refine blk_drew ?_ | refine blk_alloc ?_ _)); exact BK237.out⟩, ⟨by (with_reducible repeat (first | refine blk_drewN ?_ _ | refine blk_drew ?_ | refine blk_alloc ?_ _)); exact BK250.out⟩, ⟨by repeat (first | (with_reducible first | exact HB.out | apply below_alloc | apply pw_below_drewN | apply below_drew1 | refine below_set ?_ GE237.out | refine below_set ?_ GE250.out) | exact HB.out)⟩⟩
      · rw [if_neg c22] at H
        have c22b0 : (t249 == 0) = false := beq_eq_false_iff_ne.mpr c22
        have c22b1 : (t249 != 0) = true := bne_iff_ne.mpr c22
        (first | rw [c22b0] | (simp only [i64_w, i32_w]; rw [c22b0]) | skip)
        have H' := Aside0.mk H
        clear H
        go_wp2
        go_meet
        case rel => exact ⟨_, (true), (by first | rfl | (simp; done) | (simp [*]; done)), H', ⟨by first | omega | exact Nat.le_refl _⟩, ⟨by (with_reducible repeat (first | apply Kd.R_alloc | apply Kd.R_drewN | apply Kd.R_drew)); exact HO248.out⟩, ⟨by (with_reducible repeat (first | apply Kd.V_alloc | apply Kd.V_drewN | apply Kd.V_drew)); exact Kd.V_mono HO245.out (fun _ hk => ⟨hk.1.1, ⟨hk.1.2, hk.2⟩⟩)⟩, ⟨by (with_reducible repeat (first | refine blk_drewN ?_ _ | refine blk_drew ?_ | refine blk_alloc ?_ _)); exact BK237.out⟩, ⟨by (with_reducible repeat (first | refine blk_drewN ?_ _ | refine blk_drew ?_ | refine blk_alloc ?_ _)); exact BK250.out⟩, ⟨by repeat (first | (with_reducible first | exact HB.out | apply below_alloc | apply pw_below_drewN | apply below_drew1 | refine below_set ?_ GE237.out | refine below_set ?_ GE250.out) | exact HB.out)⟩⟩
    case rest =>
      clear HC9
      try clear c1
      try clear c2
      try clear p2
      try clear c5
      try clear c6
      try clear c9
      try clear c12
      try clear c13
      try clear c14
      try clear c17
      try clear c22
      try clear c22b0
      try clear c22b1
      try clear hcz12_0
      try clear hcz12_1
      try clear hcz12_2
      try clear hcz12_3
      try clear hcz14_0
      try clear hcz14_1
      try clear hcz14_2
      try clear hcz14_3
      try clear hcz18_0
      try clear hcz18_1
      try clear hcz18_2
      try clear hcz18_3
      try clear hfz12_0
      try clear hfz12_1
      try clear hfz12_2
      try clear hfz12_3
      try clear hfz14_0
      try clear hfz14_1
      try clear hfz14_2
      try clear hfz14_3
      try clear hfz18_0
      try clear hfz18_1
      try clear hfz18_2
      try clear hfz18_3
      obtain ⟨kq, x44_8, rfl, HA, HJ8, HO_10, HO_251003, BK237, BK250, HB⟩ := hcut
      cases kq with
      | zero => exact absurd HA.out (by simp [interchangelaw16_SeqAnswers.j0])
      | succ kj8 =>
        have H := HA.out
        clear HA
        simp only [interchangelaw16_SeqAnswers.j0] at H
        by_cases c23 : x44_8 = true
        · subst c23
          have H1 : (if true = true then (some (!t252)) else (some false)) = some r := by rw [if_pos rfl] at H; exact H
          clear H
          have H := H1
          clear H1
          have c24 : true = true := rfl
          · clear c24
            have H1 : (some (!t252)) = some r := by first | (rw [if_pos rfl] at H; exact H) | (rw [if_pos trivial] at H; exact H)
            clear H
            have H := H1
            clear H1
            replace H : (if t252 = true then (some false) else (some true)) = some r := by
              rw [← H]
              by_cases hc_ : t252 = true
              · rw [if_pos hc_]; exact congrArg some (Eq.symm (by first | exact bne_eq_false_iff_eq.mpr hc_ | (simp [hc_]; done) | simp_all))
              · rw [if_neg hc_]; exact congrArg some (Eq.symm (by first | exact bne_iff_ne.mpr hc_ | (simp [hc_]; done) | simp_all))
            by_cases c25 : t252 = true
            · subst c25
              have H1 : (some false) = some r := by rw [if_pos rfl] at H; exact H
              clear H
              have H := H1
              clear H1
              exact absurd ((Option.some.inj H).trans hT_.out) (by decide)
            · replace c25 := Bool.eq_false_iff.mpr c25
              subst c25
              have H1 : (some true) = some r := by rw [if_neg (show ¬ (false = true) by decide)] at H; exact H
              clear H
              have H := H1
              clear H1
              obtain rfl := Option.some.inj H
              go_wp2
              go_ret
              exact ⟨by first | rfl | (simp [errW_none, errW_some] <;> rfl) | (simp [*, errW_none, errW_some] <;> rfl) | (exfalso; simp only [decide_eq_true_eq, decide_eq_false_iff_not, beq_iff_eq, bne_iff_ne, ne_eq, beq_eq_false_iff_ne, bne_eq_false_iff_eq] at *; omega), by repeat (first | (with_reducible first | exact HB.out | apply below_alloc | apply pw_below_drewN | apply below_drew1 | refine below_set ?_ GE237.out | refine below_set ?_ GE250.out) | exact HB.out)⟩
        · replace c23 := Bool.eq_false_iff.mpr c23
          subst c23
          have H1 : (interchangelaw16_SeqAnswers.l0 kj8 true t246 t251 t252 t253 0 0 a0_0 a0_1 a0_2 l0_3) = some r := by rw [if_neg (show ¬ (false = true) by decide)] at H; exact H
          clear H
          have H := H1
          clear H1
          have H' := Aside0.mk H
          clear H
          go_wp2
          go_loopg [15, 16] kj8 (fun kq v15 v16 w' => ∃ (x15_2 : Int) (x16_2 : Int), v15 = .int .i64 x15_2 ∧ v16 = .int .i64 x16_2 ∧ Aside0 (interchangelaw16_SeqAnswers.l0 kq true t246 t251 t252 t253 x15_2 x16_2 a0_0 a0_1 a0_2 l0_3 = some r) ∧ Aside0 (kq ≤ kj8) ∧ Aside0 (Kd.R (Kd.int .u64) 22 w' w.heap.size (fun _ => True) (.slice Ao20 t246.length co20) t246) ∧ Aside0 (Kd.V (Kd.int .u64) 22 w' w.heap.size (fun k_ => some k_ ≠ ((.slice Ao20 t246.length co20) : Value).ownBlock ∧ k_ ≠ gb237 ∧ k_ ≠ gb250) (.slice Ao19 t243.length co19) t243) ∧ Aside0 (w'.heap[gb237]? = some (.cells #[.bool a0_0, .int .u64 a0_1, .int .u64 a0_2, (.slice A0_3 l0_3.length c0_3)] 26 (0, 0))) ∧ Aside0 (w'.heap[gb250]? = some (.cells #[.bool t240, .int .u64 t241, .int .u64 t242, (.slice Ao19 t243.length co19)] 26 (0, 0))) ∧ Aside0 (Below w.heap.size w w'))
          case atStart => exact ⟨(0), (0), (by first | rfl | (simp; done) | (simp [*]; done)), (by first | rfl | (simp; done) | (simp [*]; done)), H', ⟨Nat.le_refl _⟩, ⟨by (with_reducible repeat (first | apply Kd.R_alloc | apply Kd.R_drewN | apply Kd.R_drew)); exact HO_10.out⟩, ⟨by (with_reducible repeat (first | apply Kd.V_alloc | apply Kd.V_drewN | apply Kd.V_drew)); exact HO_251003.out⟩, ⟨by (with_reducible repeat (first | refine blk_drewN ?_ _ | refine blk_drew ?_ | refine blk_alloc ?_ _)); exact BK237.out⟩, ⟨by (with_reducible repeat (first | refine blk_drewN ?_ _ | refine blk_drew ?_ | refine blk_alloc ?_ _)); exact BK250.out⟩, ⟨by repeat (first | (with_reducible first | exact HB.out | apply below_alloc | apply pw_below_drewN | apply below_drew1 | refine below_set ?_ GE237.out | refine below_set ?_ GE250.out) | exact HB.out)⟩⟩
          case round =>
            clear H'
            try clear c1
            try clear c2
            try clear p2
            try clear c5
            try clear c6
            try clear c9
            try clear c12
            try clear c13
            try clear c14
            try clear c17
            try clear c22
            try clear c22b0
            try clear c22b1
            try clear c23
            try clear c24
            try clear c25
            try clear hcz12_0
            try clear hcz12_1
            try clear hcz12_2
            try clear hcz12_3
            try clear hcz14_0
            try clear hcz14_1
            try clear hcz14_2
            try clear hcz14_3
            try clear hcz18_0
            try clear hcz18_1
            try clear hcz18_2
            try clear hcz18_3
            try clear hfz12_0
            try clear hfz12_1
            try clear hfz12_2
            try clear hfz12_3
            try clear hfz14_0
            try clear hfz14_1
            try clear hfz14_2
            try clear hfz14_3
            try clear hfz18_0
            try clear hfz18_1
            try clear hfz18_2
            try clear hfz18_3
            try clear p2
            obtain ⟨x15_2, x16_2, rfl, rfl, HA, HK2, HO_10, HO_251003, BK237, BK250, HB⟩ := hrel
            cases gk with
            | zero => exact absurd HA.out (by simp [interchangelaw16_SeqAnswers.l0])
            | succ k2 =>
              have H := HA.out
              clear HA
              simp only [interchangelaw16_SeqAnswers.l0] at H
              by_cases c26 : x16_2 < (l0_3.length : Int)
              · rw [if_pos c26] at H
                have c26b0 : decide (x16_2 < (l0_3.length : Int)) = true := decide_eq_true c26
                clear c26
                by_cases c27 : 0 ≤ x16_2
                · rw [if_pos c27] at H
                  have c27b0 : decide (0 ≤ x16_2) = true := decide_eq_true c27
                  clear c27
                  by_cases c28 : (rd l0_3 x16_2) = t251
                  · rw [if_pos c28] at H
                    have c28b0 : ((rd l0_3 x16_2) == t251) = true := beq_iff_eq.mpr c28
                    have c28b1 : ((rd l0_3 x16_2) != t251) = false := bne_eq_false_iff_eq.mpr c28
                    clear c28
                    have H' := Aside0.mk H
                    clear H
                    have hnb29 := NB237_250.out
                    have hnc29 := NB250_237.out
                    have hcz30_0 : wr.cell? ⟨gb237, 0, none⟩ = some (.bool a0_0) := (blk_cell BK237.out 0).trans rfl
                    have hcz30_1 : wr.cell? ⟨gb237, 1, none⟩ = some (.int .u64 a0_1) := (blk_cell BK237.out 1).trans rfl
                    have hcz30_2 : wr.cell? ⟨gb237, 2, none⟩ = some (.int .u64 a0_2) := (blk_cell BK237.out 2).trans rfl
                    have hcz30_3 : wr.cell? ⟨gb237, 3, none⟩ = some (.slice A0_3 l0_3.length c0_3) := (blk_cell BK237.out 3).trans rfl
                    have hfz30_0 := blk_frozen BK237.out 0
                    have hfz30_1 := blk_frozen BK237.out 1
                    have hfz30_2 := blk_frozen BK237.out 2
                    have hfz30_3 := blk_frozen BK237.out 3
                    have p254 : 0 ≤ (x16_2 : Int) := of_decide_eq_true (by first | (with_reducible assumption) | assumption)
                    have q254 : x16_2 < (l0_3.length : Int) := of_decide_eq_true (by first | (with_reducible assumption) | assumption)
                    obtain ⟨ad254, e254, hx254_0⟩ := Kd.at_int HR0_3.out x16_2 p254 q254
                    cases e254
                    replace hx254_0 := (HB.out.cell (World.block_lt_of_cell? w _ hx254_0)).trans hx254_0
                    replace p254 := eq_true p254
                    replace q254 := eq_true q254
                    go_wp2
                    go_roundg k2
                    case measure => have := HJ8.out; have := HK2.out; omega
                    case rel => exact ⟨(wrap64 (x15_2 + 1)), (wrap64 (x16_2 + 1)), (by first | rfl | (simp; done) | (simp [*]; done)), (by first | rfl | (simp; done) | (simp [*]; done)), H', ⟨by have := HJ8.out; have := HK2.out; omega⟩, ⟨by (with_reducible repeat (first | apply Kd.R_alloc | apply Kd.R_drewN | apply Kd.R_drew)); exact HO_10.out⟩, ⟨by (with_reducible repeat (first | apply Kd.V_alloc | apply Kd.V_drewN | apply Kd.V_drew)); exact HO_251003.out⟩, ⟨by (with_reducible repeat (first | refine blk_drewN ?_ _ | refine blk_drew ?_ | refine blk_alloc ?_ _)); exact BK237.out⟩, ⟨by (with_reducible repeat (first | refine blk_drewN ?_ _ | refine blk_drew ?_ | refine blk_alloc ?_ _)); exact BK250.out⟩, ⟨by repeat (first | (with_reducible first | exact HB.out | apply below_alloc | apply pw_below_drewN | apply below_drew1 | refine below_set ?_ GE237.out | refine below_set ?_ GE250.out) | exact HB.out)⟩⟩
                  · rw [if_neg c28] at H
                    have c28b0 : ((rd l0_3 x16_2) == t251) = false := beq_eq_false_iff_ne.mpr c28
                    have c28b1 : ((rd l0_3 x16_2) != t251) = true := bne_iff_ne.mpr c28
                    by_cases c31 : t253 = true
                    · subst c31
                      have H1 : (if (rd l0_3 x16_2) < t251 then (interchangelaw16_SeqAnswers.l0 k2 true t246 t251 t252 true (wrap64 (x15_2 + 1)) (wrap64 (x16_2 + 1)) a0_0 a0_1 a0_2 l0_3) else (interchangelaw16_SeqAnswers.l0 k2 true t246 t251 t252 true x15_2 (wrap64 (x16_2 + 1)) a0_0 a0_1 a0_2 l0_3)) = some r := by rw [if_pos rfl] at H; exact H
                      clear H
                      have H := H1
                      clear H1
                      by_cases c32 : (rd l0_3 x16_2) < t251
                      · rw [if_pos c32] at H
                        have c32b0 : decide ((rd l0_3 x16_2) < t251) = true := decide_eq_true c32
                        clear c32
                        have H' := Aside0.mk H
                        clear H
                        have hnb33 := NB237_250.out
                        have hnc33 := NB250_237.out
                        have hcz34_0 : wr.cell? ⟨gb237, 0, none⟩ = some (.bool a0_0) := (blk_cell BK237.out 0).trans rfl
                        have hcz34_1 : wr.cell? ⟨gb237, 1, none⟩ = some (.int .u64 a0_1) := (blk_cell BK237.out 1).trans rfl
                        have hcz34_2 : wr.cell? ⟨gb237, 2, none⟩ = some (.int .u64 a0_2) := (blk_cell BK237.out 2).trans rfl
                        have hcz34_3 : wr.cell? ⟨gb237, 3, none⟩ = some (.slice A0_3 l0_3.length c0_3) := (blk_cell BK237.out 3).trans rfl
                        have hfz34_0 := blk_frozen BK237.out 0
                        have hfz34_1 := blk_frozen BK237.out 1
                        have hfz34_2 := blk_frozen BK237.out 2
                        have hfz34_3 := blk_frozen BK237.out 3
                        have p254 : 0 ≤ (x16_2 : Int) := of_decide_eq_true (by first | (with_reducible assumption) | assumption)
                        have q254 : x16_2 < (l0_3.length : Int) := of_decide_eq_true (by first | (with_reducible assumption) | assumption)
                        obtain ⟨ad254, e254, hx254_0⟩ := Kd.at_int HR0_3.out x16_2 p254 q254
                        cases e254
                        replace hx254_0 := (HB.out.cell (World.block_lt_of_cell? w _ hx254_0)).trans hx254_0
                        replace p254 := eq_true p254
                        replace q254 := eq_true q254
                        have p255 : 0 ≤ (x16_2 : Int) := of_decide_eq_true (by first | (with_reducible assumption) | assumption)
                        have q255 : x16_2 < (l0_3.length : Int) := of_decide_eq_true (by first | (with_reducible assumption) | assumption)
                        obtain ⟨ad255, e255, hx255_0⟩ := Kd.at_int HR0_3.out x16_2 p255 q255
                        obtain rfl : ad254 = ad255 := (by injection e255)
                        replace hx255_0 := (HB.out.cell (World.block_lt_of_cell? w _ hx255_0)).trans hx255_0
                        replace p255 := eq_true p255
                        replace q255 := eq_true q255
                        go_wp2
                        go_roundg k2
                        case measure => have := HJ8.out; have := HK2.out; omega
                        case rel => exact ⟨(wrap64 (x15_2 + 1)), (wrap64 (x16_2 + 1)), (by first | rfl | (simp; done) | (simp [*]; done)), (by first | rfl | (simp; done) | (simp [*]; done)), H', ⟨by have := HJ8.out; have := HK2.out; omega⟩, ⟨by (with_reducible repeat (first | apply Kd.R_alloc | apply Kd.R_drewN | apply Kd.R_drew)); exact HO_10.out⟩, ⟨by (with_reducible repeat (first | apply Kd.V_alloc | apply Kd.V_drewN | apply Kd.V_drew)); exact HO_251003.out⟩, ⟨by (with_reducible repeat (first | refine blk_drewN ?_ _ | refine blk_drew ?_ | refine blk_alloc ?_ _)); exact BK237.out⟩, ⟨by (with_reducible repeat (first | refine blk_drewN ?_ _ | refine blk_drew ?_ | refine blk_alloc ?_ _)); exact BK250.out⟩, ⟨by repeat (first | (with_reducible first | exact HB.out | apply below_alloc | apply pw_below_drewN | apply below_drew1 | refine below_set ?_ GE237.out | refine below_set ?_ GE250.out) | exact HB.out)⟩⟩
                      · rw [if_neg c32] at H
                        have c32b0 : decide ((rd l0_3 x16_2) < t251) = false := decide_eq_false c32
                        clear c32
                        have H' := Aside0.mk H
                        clear H
                        have hnb35 := NB237_250.out
                        have hnc35 := NB250_237.out
                        have hcz36_0 : wr.cell? ⟨gb237, 0, none⟩ = some (.bool a0_0) := (blk_cell BK237.out 0).trans rfl
                        have hcz36_1 : wr.cell? ⟨gb237, 1, none⟩ = some (.int .u64 a0_1) := (blk_cell BK237.out 1).trans rfl
                        have hcz36_2 : wr.cell? ⟨gb237, 2, none⟩ = some (.int .u64 a0_2) := (blk_cell BK237.out 2).trans rfl
                        have hcz36_3 : wr.cell? ⟨gb237, 3, none⟩ = some (.slice A0_3 l0_3.length c0_3) := (blk_cell BK237.out 3).trans rfl
                        have hfz36_0 := blk_frozen BK237.out 0
                        have hfz36_1 := blk_frozen BK237.out 1
                        have hfz36_2 := blk_frozen BK237.out 2
                        have hfz36_3 := blk_frozen BK237.out 3
                        have p254 : 0 ≤ (x16_2 : Int) := of_decide_eq_true (by first | (with_reducible assumption) | assumption)
                        have q254 : x16_2 < (l0_3.length : Int) := of_decide_eq_true (by first | (with_reducible assumption) | assumption)
                        obtain ⟨ad254, e254, hx254_0⟩ := Kd.at_int HR0_3.out x16_2 p254 q254
                        cases e254
                        replace hx254_0 := (HB.out.cell (World.block_lt_of_cell? w _ hx254_0)).trans hx254_0
                        replace p254 := eq_true p254
                        replace q254 := eq_true q254
                        have p255 : 0 ≤ (x16_2 : Int) := of_decide_eq_true (by first | (with_reducible assumption) | assumption)
                        have q255 : x16_2 < (l0_3.length : Int) := of_decide_eq_true (by first | (with_reducible assumption) | assumption)
                        obtain ⟨ad255, e255, hx255_0⟩ := Kd.at_int HR0_3.out x16_2 p255 q255
                        obtain rfl : ad254 = ad255 := (by injection e255)
                        replace hx255_0 := (HB.out.cell (World.block_lt_of_cell? w _ hx255_0)).trans hx255_0
                        replace p255 := eq_true p255
                        replace q255 := eq_true q255
                        go_wp2
                        go_roundg k2
                        case measure => have := HJ8.out; have := HK2.out; omega
                        case rel => exact ⟨(x15_2), (wrap64 (x16_2 + 1)), (by first | rfl | (simp; done) | (simp [*]; done)), (by first | rfl | (simp; done) | (simp [*]; done)), H', ⟨by have := HJ8.out; have := HK2.out; omega⟩, ⟨by (with_reducible repeat (first | apply Kd.R_alloc | apply Kd.R_drewN | apply Kd.R_drew)); exact HO_10.out⟩, ⟨by (with_reducible repeat (first | apply Kd.V_alloc | apply Kd.V_drewN | apply Kd.V_drew)); exact HO_251003.out⟩, ⟨by (with_reducible repeat (first | refine blk_drewN ?_ _ | refine blk_drew ?_ | refine blk_alloc ?_ _)); exact BK237.out⟩, ⟨by (with_reducible repeat (first | refine blk_drewN ?_ _ | refine blk_drew ?_ | refine blk_alloc ?_ _)); exact BK250.out⟩, ⟨by repeat (first | (with_reducible first | exact HB.out | apply below_alloc | apply pw_below_drewN | apply below_drew1 | refine below_set ?_ GE237.out | refine below_set ?_ GE250.out) | exact HB.out)⟩⟩
                    · replace c31 := Bool.eq_false_iff.mpr c31
                      subst c31
                      have H1 : (interchangelaw16_SeqAnswers.l0 k2 true t246 t251 t252 false x15_2 (wrap64 (x16_2 + 1)) a0_0 a0_1 a0_2 l0_3) = some r := by rw [if_neg (show ¬ (false = true) by decide)] at H; exact H
                      clear H
                      have H := H1
                      clear H1
                      have H' := Aside0.mk H
                      clear H
                      have hnb37 := NB237_250.out
                      have hnc37 := NB250_237.out
                      have hcz38_0 : wr.cell? ⟨gb237, 0, none⟩ = some (.bool a0_0) := (blk_cell BK237.out 0).trans rfl
                      have hcz38_1 : wr.cell? ⟨gb237, 1, none⟩ = some (.int .u64 a0_1) := (blk_cell BK237.out 1).trans rfl
                      have hcz38_2 : wr.cell? ⟨gb237, 2, none⟩ = some (.int .u64 a0_2) := (blk_cell BK237.out 2).trans rfl
                      have hcz38_3 : wr.cell? ⟨gb237, 3, none⟩ = some (.slice A0_3 l0_3.length c0_3) := (blk_cell BK237.out 3).trans rfl
                      have hfz38_0 := blk_frozen BK237.out 0
                      have hfz38_1 := blk_frozen BK237.out 1
                      have hfz38_2 := blk_frozen BK237.out 2
                      have hfz38_3 := blk_frozen BK237.out 3
                      have p254 : 0 ≤ (x16_2 : Int) := of_decide_eq_true (by first | (with_reducible assumption) | assumption)
                      have q254 : x16_2 < (l0_3.length : Int) := of_decide_eq_true (by first | (with_reducible assumption) | assumption)
                      obtain ⟨ad254, e254, hx254_0⟩ := Kd.at_int HR0_3.out x16_2 p254 q254
                      cases e254
                      replace hx254_0 := (HB.out.cell (World.block_lt_of_cell? w _ hx254_0)).trans hx254_0
                      replace p254 := eq_true p254
                      replace q254 := eq_true q254
                      go_wp2
                      go_roundg k2
                      case measure => have := HJ8.out; have := HK2.out; omega
                      case rel => exact ⟨(x15_2), (wrap64 (x16_2 + 1)), (by first | rfl | (simp; done) | (simp [*]; done)), (by first | rfl | (simp; done) | (simp [*]; done)), H', ⟨by have := HJ8.out; have := HK2.out; omega⟩, ⟨by (with_reducible repeat (first | apply Kd.R_alloc | apply Kd.R_drewN | apply Kd.R_drew)); exact HO_10.out⟩, ⟨by (with_reducible repeat (first | apply Kd.V_alloc | apply Kd.V_drewN | apply Kd.V_drew)); exact HO_251003.out⟩, ⟨by (with_reducible repeat (first | refine blk_drewN ?_ _ | refine blk_drew ?_ | refine blk_alloc ?_ _)); exact BK237.out⟩, ⟨by (with_reducible repeat (first | refine blk_drewN ?_ _ | refine blk_drew ?_ | refine blk_alloc ?_ _)); exact BK250.out⟩, ⟨by repeat (first | (with_reducible first | exact HB.out | apply below_alloc | apply pw_below_drewN | apply below_drew1 | refine below_set ?_ GE237.out | refine below_set ?_ GE250.out) | exact HB.out)⟩⟩
                · rw [if_neg c27] at H
                  exact absurd H (by simp)
              · rw [if_neg c26] at H
                have c26b0 : decide (x16_2 < (l0_3.length : Int)) = false := decide_eq_false c26
                clear c26
                have c39 : true = true := rfl
                · clear c39
                  have H1 : (if t252 = true then (if x15_2 = (t246.length : Int) then (some (t253 == (decide ((t246.length : Int) > 1)))) else (some false)) else (some false)) = some r := by first | (rw [if_pos rfl] at H; exact H) | (rw [if_pos trivial] at H; exact H)
                  clear H
                  have H := H1
                  clear H1
                  by_cases c40 : t252 = true
                  · subst c40
                    have H1 : (if x15_2 = (t246.length : Int) then (some (t253 == (decide ((t246.length : Int) > 1)))) else (some false)) = some r := by rw [if_pos rfl] at H; exact H
                    clear H
                    have H := H1
                    clear H1
                    by_cases c41 : x15_2 = (t246.length : Int)
                    · rw [if_pos c41] at H
                      have c41b0 : (x15_2 == (t246.length : Int)) = true := beq_iff_eq.mpr c41
                      have c41b1 : (x15_2 != (t246.length : Int)) = false := bne_eq_false_iff_eq.mpr c41
                      clear c41
                      replace H : (if (t253 == (decide ((t246.length : Int) > 1))) = true then (some true) else (some false)) = some r := by
                        rw [← H]
                        by_cases hc_ : (t253 == (decide ((t246.length : Int) > 1))) = true
                        · rw [if_pos hc_]; exact congrArg some (Eq.symm (by first | exact decide_eq_true hc_ | exact beq_iff_eq.mpr hc_ | exact hc_ | (simp [hc_]; done) | simp_all))
                        · rw [if_neg hc_]; exact congrArg some (Eq.symm (by first | exact decide_eq_false hc_ | exact beq_eq_false_iff_ne.mpr hc_ | exact Bool.eq_false_iff.mpr hc_ | (simp [hc_]; done) | simp_all))
                      by_cases c42 : (t253 == (decide ((t246.length : Int) > 1))) = true
                      · rw [if_pos c42] at H
                        have c42b0 : (t253 == (decide ((t246.length : Int) > 1))) = true := c42
                        (try (have c42b1 : decide (t253 = (decide ((t246.length : Int) > 1))) = true := by simpa using c42))
                        (try (have c42b2 : (t253 == (decide ((t246.length : Int) > 1))) = true := by simpa using c42))
                        clear c42
                        obtain rfl := Option.some.inj H
                        have hnb43 := NB237_250.out
                        have hnc43 := NB250_237.out
                        have hcz44_0 : wr.cell? ⟨gb237, 0, none⟩ = some (.bool a0_0) := (blk_cell BK237.out 0).trans rfl
                        have hcz44_1 : wr.cell? ⟨gb237, 1, none⟩ = some (.int .u64 a0_1) := (blk_cell BK237.out 1).trans rfl
                        have hcz44_2 : wr.cell? ⟨gb237, 2, none⟩ = some (.int .u64 a0_2) := (blk_cell BK237.out 2).trans rfl
                        have hcz44_3 : wr.cell? ⟨gb237, 3, none⟩ = some (.slice A0_3 l0_3.length c0_3) := (blk_cell BK237.out 3).trans rfl
                        have hfz44_0 := blk_frozen BK237.out 0
                        have hfz44_1 := blk_frozen BK237.out 1
                        have hfz44_2 := blk_frozen BK237.out 2
                        have hfz44_3 := blk_frozen BK237.out 3
                        go_wp2
                        go_ret
                        exact ⟨by first | rfl | (simp [errW_none, errW_some] <;> rfl) | (simp [*, errW_none, errW_some] <;> rfl) | (exfalso; simp only [decide_eq_true_eq, decide_eq_false_iff_not, beq_iff_eq, bne_iff_ne, ne_eq, beq_eq_false_iff_ne, bne_eq_false_iff_eq] at *; omega), by repeat (first | (with_reducible first | exact HB.out | apply below_alloc | apply pw_below_drewN | apply below_drew1 | refine below_set ?_ GE237.out | refine below_set ?_ GE250.out) | exact HB.out)⟩
                      · rw [if_neg c42] at H
                        exact absurd ((Option.some.inj H).trans hT_.out) (by decide)
                    · rw [if_neg c41] at H
                      exact absurd ((Option.some.inj H).trans hT_.out) (by decide)
                  · replace c40 := Bool.eq_false_iff.mpr c40
                    subst c40
                    have H1 : (some false) = some r := by rw [if_neg (show ¬ (false = true) by decide)] at H; exact H
                    clear H
                    have H := H1
                    clear H1
                    exact absurd ((Option.some.inj H).trans hT_.out) (by decide)
  · replace c6 := Bool.eq_false_iff.mpr c6
    subst c6
    have H1 : (some true) = some r := by rw [if_neg (show ¬ (false = true) by decide)] at H; exact H
    clear H
    have H := H1
    clear H1
    obtain rfl := Option.some.inj H
    go_enter Try.func5, Try.ntmps5
    go_wp2_with (first | ((with_reducible refine gate_dst (N := 3) rfl ?_); (try (refine gate_guard (by rfl) ?_; dsimp only)); refine box_event ?hg (N := 3) ?hd (cs := #[.bool a0_0, .int .u64 a0_1, .int .u64 a0_2, .slice A0_3 l0_3.length c0_3]) (t := 26) ?hr ?_; (case hd => rfl); (case hg => rfl); (case hr => first | (go_simp; done) | (go_simp; rfl)); intro gb237 hg w45 hbox hb; have n0_ := Aside0.mk (below_step (by repeat (first | (with_reducible first | exact HB.out | apply below_alloc | apply pw_below_drewN | apply below_drew1) | exact HB.out)) hb); have n1_ := Aside0.mk (hbox); have n2_ := Aside0.mk ((by rw [hg]; exact (below_size (by repeat (first | (with_reducible first | exact HB.out | apply below_alloc | apply pw_below_drewN | apply below_drew1) | exact HB.out))) : w.heap.size ≤ gb237)); have n3_ := Aside0.mk ((by rw [hg]; exact (below_size (by repeat (first | (with_reducible first | exact HB.out | apply below_alloc | apply pw_below_drewN | apply below_drew1) | exact HB.out))) : w.heap.size ≤ gb237)); clear HB; have HB := n0_; have BK237 := n1_; have GW237 := n2_; have GE237 := n3_; clear n0_ n1_ n2_ n3_; clear hb hbox hg) | ((with_reducible refine gate_callee (f := 9) rfl ?_); refine goesL_ (some 17) rfl rfl Try.func9 (by kernel_rfl) rfl #[] rfl (by (try simp only [List.map_toArray, List.map_cons, List.map_nil]); first | done | rfl | (simp only [List.length_drop, List.length_take]; rfl)) ?_; (with_reducible refine (interchangelaw16_shown.calls true _ ⟨rfl⟩ A4.out).mono ?_); rintro e w46 ⟨rfl, hb⟩; refine ⟨_, rfl, ?_⟩; have n0_ := Aside0.mk (blk_below (g := gb237) (o := .cells #[.bool a0_0, .int .u64 a0_1, .int .u64 a0_2, .slice A0_3 l0_3.length c0_3] 26 (0, 0)) (by (with_reducible repeat (first | refine blk_drewN ?_ _ | refine blk_drew ?_ | refine blk_alloc ?_ _)); exact BK237.out) hb); have n1_ := Aside0.mk (below_step (by repeat (first | (with_reducible first | exact HB.out | apply below_alloc | apply pw_below_drewN | apply below_drew1 | refine below_set ?_ GE237.out) | exact HB.out)) hb); clear BK237; clear HB; have BK237 := n0_; have HB := n1_; clear n0_ n1_; (try clear hb); (try clear hb2); (try clear hk); (try clear hi); have hcz47_0 : w46.cell? ⟨gb237, 0, none⟩ = some (.bool a0_0) := (blk_cell BK237.out 0).trans rfl; have hcz47_1 : w46.cell? ⟨gb237, 1, none⟩ = some (.int .u64 a0_1) := (blk_cell BK237.out 1).trans rfl; have hcz47_2 : w46.cell? ⟨gb237, 2, none⟩ = some (.int .u64 a0_2) := (blk_cell BK237.out 2).trans rfl; have hcz47_3 : w46.cell? ⟨gb237, 3, none⟩ = some (.slice A0_3 l0_3.length c0_3) := (blk_cell BK237.out 3).trans rfl; have hfz47_0 := blk_frozen BK237.out 0; have hfz47_1 := blk_frozen BK237.out 1; have hfz47_2 := blk_frozen BK237.out 2; have hfz47_3 := blk_frozen BK237.out 3) | ((with_reducible refine gate_callee (f := 13) rfl ?_); refine goesL_ (some 19) rfl rfl Try.func13 (by kernel_rfl) rfl #[.agg #[.bool a0_0, .int .u64 a0_1, .int .u64 a0_2, .slice A0_3 l0_3.length c0_3]] rfl (by (try simp only [List.map_toArray, List.map_cons, List.map_nil]); first | done | rfl | (simp only [List.length_drop, List.length_take]; rfl)) ?_; (with_reducible refine (interchangeref16_Right.calls k a0_0 a0_1 a0_2 _ _ l0_3 false _ ?side1 ?side2 A5.out).mono ?_); (case side1 => repeat (first | exact (Kd.C_below HR0_3.out HB.out) | (with_reducible refine Kd.C_alloc ?_ _) | (with_reducible refine Kd.C_drewN ?_ _) | (with_reducible refine Kd.C_drew ?_))); (case side2 => exact HC0_3.out); rintro e w48 ⟨rfl, hb⟩; refine ⟨_, rfl, ?_⟩; have n0_ := Aside0.mk (blk_below (g := gb237) (o := .cells #[.bool a0_0, .int .u64 a0_1, .int .u64 a0_2, .slice A0_3 l0_3.length c0_3] 26 (0, 0)) (by (with_reducible repeat (first | refine blk_drewN ?_ _ | refine blk_drew ?_ | refine blk_alloc ?_ _)); exact BK237.out) hb); have n1_ := Aside0.mk (below_step (by repeat (first | (with_reducible first | exact HB.out | apply below_alloc | apply pw_below_drewN | apply below_drew1 | refine below_set ?_ GE237.out) | exact HB.out)) hb); clear BK237; clear HB; have BK237 := n0_; have HB := n1_; clear n0_ n1_; (try clear hb); (try clear hb2); (try clear hk); (try clear hi)))
    go_ret
    exact ⟨by first | rfl | (simp [errW_none, errW_some] <;> rfl) | (simp [*, errW_none, errW_some] <;> rfl) | (exfalso; simp only [decide_eq_true_eq, decide_eq_false_iff_not, beq_iff_eq, bne_iff_ne, ne_eq, beq_eq_false_iff_ne, bne_eq_false_iff_eq] at *; omega), by repeat (first | (with_reducible first | exact HB.out | apply below_alloc | apply pw_below_drewN | apply below_drew1 | refine below_set ?_ GE237.out) | exact HB.out)⟩

end Go.Proofs.Ytngbkagamhakiaa.Q
