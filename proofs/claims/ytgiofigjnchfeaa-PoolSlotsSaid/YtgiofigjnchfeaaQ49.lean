/- This text was written by a program of this session: what each Go function computes, as a Lean function, and that its call does so. -/
import Derived.Test.YtgiofigjnchfeaaQ0
import Derived.Test.YtgiofigjnchfeaaV3
namespace Go.Proofs.Ytgiofigjnchfeaa.Q
open Go.RowKit Go.Proofs.YtgiofigjnchfeaaW.PrintWords Go.Proofs.YtgiofigjnchfeaaW.PrintLast Go.Proofs.YtgiofigjnchfeaaW.PrintMore
attribute [local go_sem] max2_int min2_int max_two min_two max_three min_three max_four min_four   -- for this text's walks alone
set_option linter.unusedVariables false
set_option linter.unusedSimpArgs false

/-! ### interchangeref13_put: function 49 -/
mutual
def interchangeref13_put.l0 : Nat → Int → List Int → List (S29) → Int → Int → Int → Int → List Int → List (S29) → Option (List Int × (List (S29)))
 | 0, _, _, _, _, _, _, _, _, _ => none
 | k + 1, x6, x372000, x372001, x373000, x373001, x373002, x373003, x375000, x375001 => if x6 < (x372001.length : Int) then (if 0 ≤ x6 then (if ((rd_T29 x372001 x6).f0) = x373000 then (interchangeref13_put.j1 k x6 (((rd_T29 x372001 x6).f1) != x373001) x372000 x372001 x373000 x373001 x373002 x373003 x375000 x375001) else (interchangeref13_put.j1 k x6 true x372000 x372001 x373000 x373001 x373002 x373003 x375000 x375001)) else (none)) else (some (x375000, x375001))
def interchangeref13_put.j1 : Nat → Int → Bool → List Int → List (S29) → Int → Int → Int → Int → List Int → List (S29) → Option (List Int × (List (S29)))
 | 0, _, _, _, _, _, _, _, _, _, _ => none
 | k + 1, x6, x36, x372000, x372001, x373000, x373001, x373002, x373003, x375000, x375001 => if x36 = true then (if 0 ≤ x6 then (if x6 < (x372001.length : Int) then (if x375001.length < 4398046511104 then (interchangeref13_put.l0 k (wrap64 (x6 + 1)) x372000 x372001 x373000 x373001 x373002 x373003 x375000 (x375001 ++ [(⟨(rd_T29 x372001 x6).f0, (rd_T29 x372001 x6).f1, (rd_T29 x372001 x6).f2, (rd_T29 x372001 x6).f3⟩ : S29)])) else (none)) else (none)) else (none)) else (if x373002 = 0 then (interchangeref13_put.l0 k (wrap64 (x6 + 1)) x372000 x372001 x373000 x373001 x373002 x373003 x375000 x375001) else (if x375001.length < 4398046511104 then (interchangeref13_put.l0 k (wrap64 (x6 + 1)) x372000 x372001 x373000 x373001 x373002 x373003 x375000 (x375001 ++ [(⟨x373000, x373001, x373002, x373003⟩ : S29)])) else (none)))
end
def interchangeref13_put.f (k : Nat) (l0_0 : List Int) (l0_1 : List (S29)) (a1_0 : Int) (a1_1 : Int) (a1_2 : Int) (a1_3 : Int) : Option (List Int × (List (S29))) := interchangeref13_put.l0 k 0 l0_0 l0_1 a1_0 a1_1 a1_2 a1_3 l0_0 ([] : List (S29))
theorem interchangeref13_put.mono_l : ∀ k, (∀ y0 y1 y2 y3 y4 y5 y6 y7 y8, LeO (interchangeref13_put.l0 k y0 y1 y2 y3 y4 y5 y6 y7 y8) (interchangeref13_put.l0 (k + 1) y0 y1 y2 y3 y4 y5 y6 y7 y8)) ∧ (∀ y0 y1 y2 y3 y4 y5 y6 y7 y8 y9, LeO (interchangeref13_put.j1 k y0 y1 y2 y3 y4 y5 y6 y7 y8 y9) (interchangeref13_put.j1 (k + 1) y0 y1 y2 y3 y4 y5 y6 y7 y8 y9))
 | 0 => ⟨fun _ _ _ _ _ _ _ _ _ r h => by simp [interchangeref13_put.l0] at h, fun _ _ _ _ _ _ _ _ _ _ r h => by simp [interchangeref13_put.j1] at h⟩
 | k + 1 => by
  obtain ⟨ih0, ih1⟩ := interchangeref13_put.mono_l k
  refine ⟨?_, ?_⟩
  ·
   intro y0 y1 y2 y3 y4 y5 y6 y7 y8
   unfold interchangeref13_put.l0
   repeat' first
   | (with_reducible exact ih0 _ _ _ _ _ _ _ _ _)
   | (with_reducible exact ih1 _ _ _ _ _ _ _ _ _ _)
   | (with_reducible exact LeO.refl _)
   | (with_reducible exact LeO.none _)
   | (with_reducible refine LeO.ite ?_ ?_)
   | (with_reducible refine LeO.bind ?_ (fun _ => ?_))
   | exact ih0 _ _ _ _ _ _ _ _ _
   | exact ih1 _ _ _ _ _ _ _ _ _ _
   | exact LeO.none _
   | refine LeO.ite ?_ ?_
   | refine LeO.bind ?_ (fun _ => ?_)
  ·
   intro y0 y1 y2 y3 y4 y5 y6 y7 y8 y9
   unfold interchangeref13_put.j1
   repeat' first
   | (with_reducible exact ih0 _ _ _ _ _ _ _ _ _)
   | (with_reducible exact ih1 _ _ _ _ _ _ _ _ _ _)
   | (with_reducible exact LeO.refl _)
   | (with_reducible exact LeO.none _)
   | (with_reducible refine LeO.ite ?_ ?_)
   | (with_reducible refine LeO.bind ?_ (fun _ => ?_))
   | exact ih0 _ _ _ _ _ _ _ _ _
   | exact ih1 _ _ _ _ _ _ _ _ _ _
   | exact LeO.none _
   | refine LeO.ite ?_ ?_
   | refine LeO.bind ?_ (fun _ => ?_)
theorem interchangeref13_put.mono : ∀ a0 a1 a2 a3 a4 a5 k, LeO (interchangeref13_put.f k a0 a1 a2 a3 a4 a5) (interchangeref13_put.f (k + 1) a0 a1 a2 a3 a4 a5) := by
 intro a0 a1 a2 a3 a4 a5 k
 obtain ⟨ih0, ih1⟩ := interchangeref13_put.mono_l k
 unfold interchangeref13_put.f
 repeat' first
   | (with_reducible exact ih0 _ _ _ _ _ _ _ _ _)
   | (with_reducible exact ih1 _ _ _ _ _ _ _ _ _ _)
   | (with_reducible exact LeO.refl _)
   | (with_reducible exact LeO.none _)
   | (with_reducible refine LeO.ite ?_ ?_)
   | (with_reducible refine LeO.bind ?_ (fun _ => ?_))
   | exact ih0 _ _ _ _ _ _ _ _ _
   | exact ih1 _ _ _ _ _ _ _ _ _ _
   | exact LeO.none _
   | refine LeO.ite ?_ ?_
   | refine LeO.bind ?_ (fun _ => ?_)
def interchangeref13_put.T5 : Bool × List (List Nat × List Nat) := (true, [([], []), ([0], [0]), ([], []), ([1, 2], [1, 2]), ([3], [3]), ([4], [4]), ([], []), ([6], [6]), ([5, 7], [5, 7]), ([8], [8]), ([9], [9]), ([10, 9], [9, 10]), ([9], [9]), ([11, 12, 9], [9, 11, 12]), ([13, 9], [9, 13]), ([14, 9], [9, 14]), ([9], [9]), ([16, 9], [9, 16]), ([15, 17, 9], [9, 15, 17]), ([9, 18], [9, 18])])
def interchangeref13_put.B5 : List Nat := [0, 1, 0, 7, 15, 31, 0, 64, 255, 511, 1023, 2047, 1023, 8191, 16383, 32767, 1023, 66559, 262143, 524287]
theorem interchangeref13_put.tab5 : rtab .any (opsOf Try.f49 5) = interchangeref13_put.T5 := by kernel_rfl
theorem interchangeref13_put.bits5 : waitsOk interchangeref13_put.T5.2 interchangeref13_put.B5 = true := by kernel_rfl
def interchangeref13_put.T6 : Bool × List (List Nat × List Nat) := (true, [([], []), ([0], [0]), ([], []), ([2], [2]), ([], []), ([3, 4], [3, 4]), ([5], [5]), ([6], [6]), ([1, 7], [1, 7]), ([0, 1, 2, 3, 4, 5, 6, 7, 8], []), ([9, 8, 8, 0, 1, 2, 3, 4, 5, 6, 7, 8], [8, 9])])
def interchangeref13_put.B6 : List Nat := [0, 1, 0, 4, 0, 28, 60, 124, 255, 511, 1023]
theorem interchangeref13_put.tab6 : rtab .any (opsOf Try.f49 6) = interchangeref13_put.T6 := by kernel_rfl
theorem interchangeref13_put.bits6 : waitsOk interchangeref13_put.T6.2 interchangeref13_put.B6 = true := by kernel_rfl
set_option maxHeartbeats 8000000 in
set_option maxRecDepth 100000 in
theorem interchangeref13_put.calls (k : Nat) (P0_0_ : Nat → Prop) (A0_0 : Option Addr) (c0_0 : Nat) (l0_0 : List Int) (A0_1 : Option Addr) (c0_1 : Nat) (l0_1 : List (S29)) (a1_0 : Int) (a1_1 : Int) (a1_2 : Int) (a1_3 : Int) (r1 : List Int) (r2 : List (S29)) (w : World) (hs0_0 : Kd.V (Kd.int .i64) 3 w w.heap.size (fun k_ => P0_0_ k_) (.slice A0_0 l0_0.length c0_0) l0_0) (hr0_1 : Kd.C k29 w A0_1 l0_1.length l0_1) (hc0_1 : l0_1.length ≤ c0_1) (h : interchangeref13_put.f k l0_0 l0_1 a1_0 a1_1 a1_2 a1_3 = some (r1, r2)) :
  Calls Try.prog 49 #[.agg #[.slice A0_0 l0_0.length c0_0, .slice A0_1 l0_1.length c0_1], .agg #[.int .i64 a1_0, .int .i64 a1_1, .int .i64 a1_2, .int .i64 a1_3]] w fun e w' => ∃ v0_ v1_ : Value, e = .returned (.agg #[v0_, v1_]) ∧ Kd.V (Kd.int .i64) 3 w' w.heap.size (fun k_ => (P0_0_ k_ ∨ w.heap.size ≤ k_) ∧ some k_ ≠ (v1_ : Value).ownBlock) v0_ r1 ∧ Kd.R k29 29 w' w.heap.size (fun k_ => (w.heap.size ≤ k_)) v1_ r2 ∧ Below w.heap.size w w' := by
 have hu25 := Try.underlying25
 have hu29 := Try.underlying29
 have HO0_0 := Aside0.mk (show Kd.V (Kd.int .i64) 3 w w.heap.size (fun k_ => (P0_0_ k_ ∨ w.heap.size ≤ k_)) (.slice A0_0 l0_0.length c0_0) l0_0 from Kd.V_mono hs0_0 (fun k_ hk => .inl hk))
 have HR0_1 := Aside0.mk hr0_1
 have HC0_1 := Aside0.mk hc0_1
 clear hr0_1 hc0_1
 have HB := Aside0.mk (Below.refl w.heap.size w)
 have H : (interchangeref13_put.l0 k 0 l0_0 l0_1 a1_0 a1_1 a1_2 a1_3 l0_0 ([] : List (S29))) = some (r1, r2) := h
 clear h
 have H' := Aside0.mk H
 clear H
 go_enter Try.func49, Try.ntmps49
 go_wp2_with (first | ((with_reducible refine gate_dst (N := 2) rfl ?_); refine box_event ?hg (N := 2) ?hd (cs := #[.slice A0_0 l0_0.length c0_0, .slice A0_1 l0_1.length c0_1]) (t := 25) ?hr ?_; (case hd => rfl); (case hg => rfl); (case hr => first | (go_simp; done) | (go_simp; rfl)); intro gb371 hg w3 hbox hb; have BK371 := Aside0.mk (hbox); have GW371 := Aside0.mk ((by rw [hg]; exact (below_size (bl HB.out)) : w.heap.size ≤ gb371)); have GE371 := GW371; replace HO0_0 := ve HO0_0 hg hb; replace HB := hs HB hb; clear hb hbox hg) | ((with_reducible refine gate_dst (N := 3) rfl ?_); refine box_event ?hg (N := 3) ?hd (cs := #[.int .i64 a1_0, .int .i64 a1_1, .int .i64 a1_2, .int .i64 a1_3]) (t := 29) ?hr ?_; (case hd => rfl); (case hg => rfl); (case hr => first | (go_simp; done) | (go_simp; rfl)); intro gb372 hg w4 hbox hb; have BK372 := Aside0.mk (hbox); have GW372 := Aside0.mk ((by rw [hg]; exact (below_size (by repeat (first | (with_reducible first | exact HB.out | apply bA | apply bN | apply bD | refine bS ?_ ‹_›) | exact HB.out))) : w.heap.size ≤ gb372)); have GE372 := GW372; have NB371_372 := nl BK371 hg; have NB372_371 := ng BK371 hg; replace HO0_0 := ve HO0_0 hg hb; replace BK371 := bb BK371 hb; replace HB := Aside0.mk (below_step (by repeat (first | (with_reducible first | exact HB.out | apply bA | apply bN | apply bD | refine bS ?_ ‹_›) | exact HB.out)) hb); clear hb hbox hg) | ((with_reducible refine gate_dst (N := 4) rfl ?_); refine box_event ?hg (N := 4) ?hd (cs := #[.slice none 0 0, .slice none 0 0]) (t := 25) ?hr ?_; (case hd => rfl); (case hg => rfl); (case hr => first | (go_simp; done) | (go_simp; rfl)); intro gb373 hg w5 hbox hb; have BK373 := Aside0.mk (hbox); have GW373 := Aside0.mk ((by rw [hg]; exact (below_size (by repeat (first | (with_reducible first | exact HB.out | apply bA | apply bN | apply bD | refine bS ?_ ‹_›) | exact HB.out))) : w.heap.size ≤ gb373)); have GE373 := GW373; have NB371_373 := nl BK371 hg; have NB373_371 := ng BK371 hg; have NB372_373 := nl BK372 hg; have NB373_372 := ng BK372 hg; replace HO0_0 := ve HO0_0 hg hb; replace BK371 := bb BK371 hb; replace BK372 := bb BK372 hb; replace HB := Aside0.mk (below_step (by repeat (first | (with_reducible first | exact HB.out | apply bA | apply bN | apply bD | refine bS ?_ ‹_›) | exact HB.out)) hb); clear hb hbox hg; have hnb6 := NB371_372.out; have hnc6 := NB372_371.out; have hnb7 := NB371_373.out; have hnc7 := NB373_371.out; have hcz8_0 : w5.cell? ⟨gb371, 0, none⟩ = some (.slice A0_0 l0_0.length c0_0) := (blk_cell BK371.out 0).trans rfl; have hcz8_1 : w5.cell? ⟨gb371, 1, none⟩ = some (.slice A0_1 l0_1.length c0_1) := (blk_cell BK371.out 1).trans rfl; have hfz8_0 := blk_frozen BK371.out 0; have hfz8_1 := blk_frozen BK371.out 1) | ((with_reducible refine gate_dst (N := 5) rfl ?_); refine box_event ?hg (N := 5) ?hd (cs := #[.slice none 0 0, .slice none 0 0]) (t := 25) ?hr ?_; (case hd => rfl); (case hg => rfl); (case hr => first | (go_simp; done) | (go_simp; rfl)); intro gb374 hg w9 hbox hb; have BK374 := Aside0.mk (hbox); have GW374 := Aside0.mk ((by rw [hg]; exact (below_size (by repeat (first | (with_reducible first | exact HB.out | apply bA | apply bN | apply bD | refine bS ?_ ‹_›) | exact HB.out))) : w.heap.size ≤ gb374)); have GE374 := GW374; have NB371_374 := nl BK371 hg; have NB374_371 := ng BK371 hg; have NB372_374 := nl BK372 hg; have NB374_372 := ng BK372 hg; have NB373_374 := nl BK373 hg; have NB374_373 := ng BK373 hg; replace HO0_0 := ve HO0_0 hg hb; replace BK371 := bb BK371 hb; replace BK372 := bb BK372 hb; replace BK373 := bb BK373 hb; replace HB := Aside0.mk (below_step (by repeat (first | (with_reducible first | exact HB.out | apply bA | apply bN | apply bD | refine bS ?_ ‹_›) | exact HB.out)) hb); clear hb hbox hg; have hnb10 := NB374_371.out; have hnc10 := NB371_374.out; have hnb11 := NB374_372.out; have hnc11 := NB372_374.out; have hnb12 := NB374_373.out; have hnc12 := NB373_374.out; have hcz13_0 : w9.cell? ⟨gb374, 0, none⟩ = some (.slice none 0 0) := (blk_cell BK374.out 0).trans rfl; have hcz13_1 : w9.cell? ⟨gb374, 1, none⟩ = some (.slice none 0 0) := (blk_cell BK374.out 1).trans rfl; have hfz13_0 := blk_frozen BK374.out 0; have hfz13_1 := blk_frozen BK374.out 1))
 go_loopg [6] k (fun kq v6 w' => ∃ (x6_1 : Int) (x375001_1 : List (S29)) (u375001 : Value), v6 = .int .i64 x6_1 ∧ Aside0 (interchangeref13_put.l0 kq x6_1 l0_0 l0_1 a1_0 a1_1 a1_2 a1_3 l0_0 x375001_1 = some (r1, r2)) ∧ Aside0 (kq ≤ k) ∧ Aside0 (Kd.V (Kd.int .i64) 3 w' w.heap.size (fun k_ => (P0_0_ k_ ∨ w.heap.size ≤ k_) ∧ some k_ ≠ (u375001 : Value).ownBlock ∧ k_ ≠ gb371 ∧ k_ ≠ gb372 ∧ k_ ≠ gb373 ∧ k_ ≠ gb374) (.slice A0_0 l0_0.length c0_0) l0_0) ∧ Aside0 (Kd.V (Kd.int .i64) 3 w' w.heap.size (fun k_ => (P0_0_ k_ ∨ w.heap.size ≤ k_) ∧ some k_ ≠ (u375001 : Value).ownBlock ∧ k_ ≠ gb371 ∧ k_ ≠ gb372 ∧ k_ ≠ gb373 ∧ k_ ≠ gb374) (.slice A0_0 l0_0.length c0_0) l0_0) ∧ Aside0 (Kd.R k29 29 w' w.heap.size (fun k_ => (w.heap.size ≤ k_) ∧ k_ ≠ gb372) u375001 x375001_1) ∧ Aside0 (w'.heap[gb371]? = some (.cells #[(.slice A0_0 l0_0.length c0_0), (.slice A0_1 l0_1.length c0_1)] 25 (0, 0))) ∧ Aside0 (w'.heap[gb372]? = some (.cells #[.int .i64 a1_0, .int .i64 a1_1, .int .i64 a1_2, .int .i64 a1_3] 29 (0, 0))) ∧ Aside0 (w'.heap[gb373]? = some (.cells #[(.slice none 0 0), (.slice none 0 0)] 25 (0, 0))) ∧ Aside0 (w'.heap[gb374]? = some (.cells #[(.slice A0_0 l0_0.length c0_0), u375001] 25 (0, 0))) ∧ Aside0 (Below w.heap.size w w'))
 case atStart => exact ⟨(0), (([] : List (S29))), (.slice none 0 0), (by first | rfl | (simp; done) | (simp [*]; done)), H', ⟨Nat.le_refl _⟩, ⟨by (with_reducible repeat (first | apply Kd.V_alloc | apply Kd.V_drewN | apply Kd.V_drew)); exact Kd.V_mono (Kd.V_far (p := ⟨gb374, 1, none⟩) (Kd.V_far (p := ⟨gb374, 0, none⟩) (Kd.V_mono HO0_0.out (fun k_ hk => (⟨hk, hk.2⟩ : _ ∧ k_ ≠ gb374))) (fun _ hk => hk.2) (.slice A0_0 l0_0.length c0_0)) (fun _ hk => hk.2) (.slice none 0 0)) (fun _ hk => ⟨hk.1.1.1.1.1, ⟨(by simp [Value.ownBlock]), ⟨hk.1.1.1.1.2, ⟨hk.1.1.1.2, ⟨hk.1.1.2, hk.1.2⟩⟩⟩⟩⟩)⟩, ⟨by (with_reducible repeat (first | apply Kd.V_alloc | apply Kd.V_drewN | apply Kd.V_drew)); exact Kd.V_mono (Kd.V_far (p := ⟨gb374, 1, none⟩) (Kd.V_far (p := ⟨gb374, 0, none⟩) (Kd.V_mono HO0_0.out (fun k_ hk => (⟨hk, hk.2⟩ : _ ∧ k_ ≠ gb374))) (fun _ hk => hk.2) (.slice A0_0 l0_0.length c0_0)) (fun _ hk => hk.2) (.slice none 0 0)) (fun _ hk => ⟨hk.1.1.1.1.1, ⟨(by simp [Value.ownBlock]), ⟨hk.1.1.1.1.2, ⟨hk.1.1.1.2, ⟨hk.1.1.2, hk.1.2⟩⟩⟩⟩⟩)⟩, ⟨by first | exact Kd.R_nil _ _ _ _ _ | exact Kd.N_nil _ _ _ _ _ | exact Kd.V_nil _ _ _ _ _ | exact Kd.Q_nil _ _ _ _ _ | exact Kd.S_nil _ _ _ _ _⟩, ⟨by (with_reducible repeat (first | refine blk_drewN ?_ _ | refine blk_drew ?_ | refine blk_alloc ?_ _)); refine blk_far ?_ NB371_374.out _; (with_reducible repeat (first | refine blk_drewN ?_ _ | refine blk_drew ?_ | refine blk_alloc ?_ _)); refine blk_far ?_ NB371_374.out _; (with_reducible repeat (first | refine blk_drewN ?_ _ | refine blk_drew ?_ | refine blk_alloc ?_ _)); exact BK371.out⟩, ⟨by (with_reducible repeat (first | refine blk_drewN ?_ _ | refine blk_drew ?_ | refine blk_alloc ?_ _)); refine blk_far ?_ NB372_374.out _; (with_reducible repeat (first | refine blk_drewN ?_ _ | refine blk_drew ?_ | refine blk_alloc ?_ _)); refine blk_far ?_ NB372_374.out _; (with_reducible repeat (first | refine blk_drewN ?_ _ | refine blk_drew ?_ | refine blk_alloc ?_ _)); exact BK372.out⟩, ⟨by (with_reducible repeat (first | refine blk_drewN ?_ _ | refine blk_drew ?_ | refine blk_alloc ?_ _)); refine blk_far ?_ NB373_374.out _; (with_reducible repeat (first | refine blk_drewN ?_ _ | refine blk_drew ?_ | refine blk_alloc ?_ _)); refine blk_far ?_ NB373_374.out _; (with_reducible repeat (first | refine blk_drewN ?_ _ | refine blk_drew ?_ | refine blk_alloc ?_ _)); exact BK373.out⟩, ⟨by (with_reducible repeat (first | refine blk_drewN ?_ _ | refine blk_drew ?_ | refine blk_alloc ?_ _)); refine blk_put (cs := #[.slice A0_0 l0_0.length c0_0, .slice none 0 0]) ?_ 1 _ rfl; (with_reducible repeat (first | refine blk_drewN ?_ _ | refine blk_drew ?_ | refine blk_alloc ?_ _)); refine blk_put (cs := #[.slice none 0 0, .slice none 0 0]) ?_ 0 _ rfl; (with_reducible repeat (first | refine blk_drewN ?_ _ | refine blk_drew ?_ | refine blk_alloc ?_ _)); exact BK374.out⟩, ⟨by repeat (first | (with_reducible first | exact HB.out | apply below_alloc | apply pw_below_drewN | apply below_drew1 | refine below_set ?_ GE371.out | refine below_set ?_ GE372.out | refine below_set ?_ GE373.out | refine below_set ?_ GE374.out) | exact HB.out)⟩⟩
 case round =>
  clear H'
  (try clear c1); (try clear p2); (try clear c4); (try clear c6); (try clear c7); (try clear c10); (try clear c11); (try clear c12); (try clear hcz13_0); (try clear hcz13_1); (try clear hcz8_0); (try clear hcz8_1); (try clear hfz13_0); (try clear hfz13_1); (try clear hfz8_0); (try clear hfz8_1)
  obtain ⟨x6_1, x375001_1, u375001, rfl, HA, HK1, HO_372000, HO_375000, HO_375001, BK371, BK372, BK373, BK374, HB⟩ := hrel
  cases gk with
  | zero => exact absurd HA.out (by simp [interchangeref13_put.l0])
  | succ k1 =>
   have H := HA.out
   clear HA
   simp only [interchangeref13_put.l0] at H
   by_cases c14 : x6_1 < (l0_1.length : Int)
   ·
    rw [if_pos c14] at H
    have c14b0 : decide (x6_1 < (l0_1.length : Int)) = true := decide_eq_true c14
    clear c14
    have HC15 := Aside0.mk H
    clear H
    have hnb16 := NB371_372.out
    have hnc16 := NB372_371.out
    have hnb17 := NB371_373.out
    have hnc17 := NB373_371.out
    have hnb18 := NB371_374.out
    have hnc18 := NB374_371.out
    have hcz19_0 : wr.cell? ⟨gb371, 0, none⟩ = some (.slice A0_0 l0_0.length c0_0) := (blk_cell BK371.out 0).trans rfl
    have hcz19_1 : wr.cell? ⟨gb371, 1, none⟩ = some (.slice A0_1 l0_1.length c0_1) := (blk_cell BK371.out 1).trans rfl
    have hfz19_0 := blk_frozen BK371.out 0
    have hfz19_1 := blk_frozen BK371.out 1
    go_upto_region 5 with (fail)
    go_cut [36] (fun v36 wc => ∃ (kq : Nat) (x36_14 : Bool), v36 = .bool x36_14 ∧ Aside0 (interchangeref13_put.j1 kq x6_1 x36_14 l0_0 l0_1 a1_0 a1_1 a1_2 a1_3 l0_0 x375001_1 = some (r1, r2)) ∧ Aside0 (kq ≤ k1) ∧ Aside0 (Kd.V (Kd.int .i64) 3 wc w.heap.size (fun k_ => (P0_0_ k_ ∨ w.heap.size ≤ k_) ∧ some k_ ≠ (u375001 : Value).ownBlock ∧ k_ ≠ gb371 ∧ k_ ≠ gb372 ∧ k_ ≠ gb373 ∧ k_ ≠ gb374) (.slice A0_0 l0_0.length c0_0) l0_0) ∧ Aside0 (Kd.V (Kd.int .i64) 3 wc w.heap.size (fun k_ => (P0_0_ k_ ∨ w.heap.size ≤ k_) ∧ some k_ ≠ (u375001 : Value).ownBlock ∧ k_ ≠ gb371 ∧ k_ ≠ gb372 ∧ k_ ≠ gb373 ∧ k_ ≠ gb374) (.slice A0_0 l0_0.length c0_0) l0_0) ∧ Aside0 (Kd.R k29 29 wc w.heap.size (fun k_ => (w.heap.size ≤ k_) ∧ k_ ≠ gb372) u375001 x375001_1) ∧ Aside0 (wc.heap[gb371]? = some (.cells #[(.slice A0_0 l0_0.length c0_0), (.slice A0_1 l0_1.length c0_1)] 25 (0, 0))) ∧ Aside0 (wc.heap[gb372]? = some (.cells #[.int .i64 a1_0, .int .i64 a1_1, .int .i64 a1_2, .int .i64 a1_3] 29 (0, 0))) ∧ Aside0 (wc.heap[gb373]? = some (.cells #[(.slice none 0 0), (.slice none 0 0)] 25 (0, 0))) ∧ Aside0 (wc.heap[gb374]? = some (.cells #[(.slice A0_0 l0_0.length c0_0), u375001] 25 (0, 0))) ∧ Aside0 (Below w.heap.size w wc))
    case first =>
     have H := HC15.out
     clear HC15
     by_cases c20 : 0 ≤ x6_1
     ·
      rw [if_pos c20] at H
      have c20b0 : decide (0 ≤ x6_1) = true := decide_eq_true c20
      clear c20
      (first | rw [c20b0] | (simp only [i64_w, i32_w]; rw [c20b0]) | skip)
      by_cases c21 : ((rd_T29 l0_1 x6_1).f0) = a1_0
      ·
       rw [if_pos c21] at H
       have c21b0 : (((rd_T29 l0_1 x6_1).f0) == a1_0) = true := beq_iff_eq.mpr c21
       have c21b1 : (((rd_T29 l0_1 x6_1).f0) != a1_0) = false := bne_eq_false_iff_eq.mpr c21
       clear c21
       have H' := Aside0.mk H
       clear H
       try go_wp2
       have n0_ := Aside0.mk (Kd.V_drew HO_372000.out)
       have n1_ := Aside0.mk (Kd.V_drew HO_375000.out)
       have n2_ := Aside0.mk (Kd.R_drew HO_375001.out)
       have n3_ := Aside0.mk (blk_drew BK371.out)
       have n4_ := Aside0.mk (blk_drew BK372.out)
       have n5_ := Aside0.mk (blk_drew BK373.out)
       have n6_ := Aside0.mk (blk_drew BK374.out)
       have n7_ := Aside0.mk (below_drew1 HB.out)
       clear HO_372000
       clear HO_375000
       clear HO_375001
       clear BK371
       clear BK372
       clear BK373
       clear BK374
       clear HB
       have HO_372000 := n0_
       have HO_375000 := n1_
       have HO_375001 := n2_
       have BK371 := n3_
       have BK372 := n4_
       have BK373 := n5_
       have BK374 := n6_
       have HB := n7_
       clear n0_ n1_ n2_ n3_ n4_ n5_ n6_ n7_
       have p375 : 0 ≤ (x6_1 : Int) := of_decide_eq_true (by first | (with_reducible assumption) | assumption)
       have q375 : x6_1 < (l0_1.length : Int) := of_decide_eq_true (by first | (with_reducible assumption) | assumption)
       obtain ⟨ad375, e375, hx375_0, hx375_1, hx375_2, hx375_3⟩ := at_T29 HR0_1.out x6_1 p375 q375
       have hw375_3 := hx375_3
       have hw375_2 := hx375_2
       have hw375_1 := hx375_1
       have hw375_0 := hx375_0
       cases e375
       replace hx375_0 := (HB.out.cell (World.block_lt_of_cell? w _ hx375_0)).trans hx375_0
       replace hx375_1 := (HB.out.cell (World.block_lt_of_cell? w _ hx375_1)).trans hx375_1
       replace hx375_2 := (HB.out.cell (World.block_lt_of_cell? w _ hx375_2)).trans hx375_2
       replace hx375_3 := (HB.out.cell (World.block_lt_of_cell? w _ hx375_3)).trans hx375_3
       replace p375 := eq_true p375
       replace q375 := eq_true q375
       have p376 : 0 ≤ (x6_1 : Int) := of_decide_eq_true (by first | (with_reducible assumption) | assumption)
       have q376 : x6_1 < (l0_1.length : Int) := of_decide_eq_true (by first | (with_reducible assumption) | assumption)
       obtain ⟨ad376, e376, hx376_0, hx376_1, hx376_2, hx376_3⟩ := at_T29 HR0_1.out x6_1 p376 q376
       have hw376_3 := hx376_3
       have hw376_2 := hx376_2
       have hw376_1 := hx376_1
       have hw376_0 := hx376_0
       obtain rfl : ad375 = ad376 := (by injection e376)
       replace hx376_0 := (HB.out.cell (World.block_lt_of_cell? w _ hx376_0)).trans hx376_0
       replace hx376_1 := (HB.out.cell (World.block_lt_of_cell? w _ hx376_1)).trans hx376_1
       replace hx376_2 := (HB.out.cell (World.block_lt_of_cell? w _ hx376_2)).trans hx376_2
       replace hx376_3 := (HB.out.cell (World.block_lt_of_cell? w _ hx376_3)).trans hx376_3
       replace p376 := eq_true p376
       replace q376 := eq_true q376
       refine start_ (n := 20) (S := fun w' => w'.cell? ⟨gb371, 0, none⟩ = some (.slice A0_0 l0_0.length c0_0) ∧ w'.cell? ⟨gb371, 1, none⟩ = some (.slice (some ad375) l0_1.length c0_1) ∧ w'.cell? ⟨gb372, 0, none⟩ = some (.int .i64 a1_0) ∧ w'.cell? ⟨gb372, 1, none⟩ = some (.int .i64 a1_1) ∧ w'.cell? ⟨gb372, 2, none⟩ = some (.int .i64 a1_2) ∧ w'.cell? ⟨gb372, 3, none⟩ = some (.int .i64 a1_3) ∧ w'.cell? (ad375.add ((x6_1).toNat * 4)) = some (.int .i64 ((rd_T29 l0_1 x6_1).f0)) ∧ w'.cell? ⟨(ad375.add ((x6_1).toNat * 4)).block, (ad375.add ((x6_1).toNat * 4)).off + 1, none⟩ = some (.int .i64 ((rd_T29 l0_1 x6_1).f1)) ∧ w'.cell? ⟨(ad375.add ((x6_1).toNat * 4)).block, (ad375.add ((x6_1).toNat * 4)).off + 2, none⟩ = some (.int .i64 ((rd_T29 l0_1 x6_1).f2)) ∧ w'.cell? ⟨(ad375.add ((x6_1).toNat * 4)).block, (ad375.add ((x6_1).toNat * 4)).off + 3, none⟩ = some (.int .i64 ((rd_T29 l0_1 x6_1).f3)) ∧ w'.cell? (ad375.add ((x6_1).toNat * 4)) = some (.int .i64 ((rd_T29 l0_1 x6_1).f0)) ∧ w'.cell? ⟨(ad375.add ((x6_1).toNat * 4)).block, (ad375.add ((x6_1).toNat * 4)).off + 1, none⟩ = some (.int .i64 ((rd_T29 l0_1 x6_1).f1)) ∧ w'.cell? ⟨(ad375.add ((x6_1).toNat * 4)).block, (ad375.add ((x6_1).toNat * 4)).off + 2, none⟩ = some (.int .i64 ((rd_T29 l0_1 x6_1).f2)) ∧ w'.cell? ⟨(ad375.add ((x6_1).toNat * 4)).block, (ad375.add ((x6_1).toNat * 4)).off + 3, none⟩ = some (.int .i64 ((rd_T29 l0_1 x6_1).f3))) (ds := []) #[false, false, false, false, false, false, false, false, false, false, false, false, false, false, false, false, false, false, false, false] (by kernel_rfl) rfl rfl ⟨(blk_cell BK371.out 0).trans rfl, (blk_cell BK371.out 1).trans rfl, (blk_cell BK372.out 0).trans rfl, (blk_cell BK372.out 1).trans rfl, (blk_cell BK372.out 2).trans rfl, (blk_cell BK372.out 3).trans rfl, ((HB.out.cell (World.block_lt_of_cell? w _ hw375_0)).trans hw375_0), ((HB.out.cell (World.block_lt_of_cell? w _ hw375_1)).trans hw375_1), ((HB.out.cell (World.block_lt_of_cell? w _ hw375_2)).trans hw375_2), ((HB.out.cell (World.block_lt_of_cell? w _ hw375_3)).trans hw375_3), ((HB.out.cell (World.block_lt_of_cell? w _ hw376_0)).trans hw376_0), ((HB.out.cell (World.block_lt_of_cell? w _ hw376_1)).trans hw376_1), ((HB.out.cell (World.block_lt_of_cell? w _ hw376_2)).trans hw376_2), ((HB.out.cell (World.block_lt_of_cell? w _ hw376_3)).trans hw376_3)⟩ (fun hHeld => ?_); refine with_tabW interchangeref13_put.tab5 interchangeref13_put.bits5 (fun HT_ HW_ => ?_)
       generalize wr.drew = w22 at HO_372000 HO_375000 HO_375001 BK371 BK372 BK373 BK374 HB hx375_0 hx375_1 hx375_2 hx375_3 hx376_0 hx376_1 hx376_2 hx376_3 hHeld ⊢
       refine pure_ (i := 0) (N := some 17) (v := ?_) (a' := ?_) #[true, false, false, false, false, false, false, false, false, false, false, false, false, false, false, false, false, false, false, false] rfl rfl (any_of HT_.out (by kernel_rfl)) (fun _ _ _ h => h) (Or.inl ⟨by rfl, ?_⟩) ?_ ?_
       rotate_left
       ·
        intro w'
        go_simp
        with_reducible rfl
       rotate_left
       ·
        simp only [Act.put, List.setIfInBounds_toArray, List.set_cons_zero, List.set_cons_succ, i64_w, i32_w]
        rfl
       refine pure_ (i := 2) (N := some 19) (v := ?_) (a' := ?_) #[true, false, true, false, false, false, false, false, false, false, false, false, false, false, false, false, false, false, false, false] rfl rfl (any_of HT_.out (by kernel_rfl)) (fun _ _ _ h => h) (Or.inl ⟨by rfl, ?_⟩) ?_ ?_
       rotate_left
       ·
        intro w'
        go_simp
        with_reducible rfl
       rotate_left
       ·
        simp only [Act.put, List.setIfInBounds_toArray, List.set_cons_zero, List.set_cons_succ, i64_w, i32_w]
        rfl
       refine pure_ (i := 6) (N := some 23) (v := ?_) (a' := ?_) #[true, false, true, false, false, false, true, false, false, false, false, false, false, false, false, false, false, false, false, false] rfl rfl (any_of HT_.out (by kernel_rfl)) (fun _ _ _ h => h) (Or.inl ⟨by rfl, ?_⟩) ?_ ?_
       rotate_left
       ·
        intro w'
        go_simp
        with_reducible rfl
       rotate_left
       ·
        simp only [Act.put, List.setIfInBounds_toArray, List.set_cons_zero, List.set_cons_succ, i64_w, i32_w]
        rfl
       refine take_ (i := 1) (N := some 18) (v := ?_) (a' := ?_) #[true, true, true, false, false, false, true, false, false, false, false, false, false, false, false, false, false, false, false, false] rfl rfl (take_ofW HT_.out HW_.out (by kernel_rfl)) (fun _ _ _ h => h) (Or.inl ⟨by rfl, ?_⟩) hHeld ?_ ?_
       rotate_left
       ·
        rintro w' ⟨s0, s1, s2, s3, s4, s5, s6, s7, s8, s9, s10, s11, s12, s13⟩
        go_simp
        with_reducible rfl
       rotate_left
       ·
        simp only [Act.put, List.setIfInBounds_toArray, List.set_cons_zero, List.set_cons_succ, i64_w, i32_w]
        rfl
       refine pure_ (i := 3) (N := some 20) (v := ?_) (a' := ?_) #[true, true, true, true, false, false, true, false, false, false, false, false, false, false, false, false, false, false, false, false] rfl rfl (any_of HT_.out (by kernel_rfl)) (fun _ _ _ h => h) (Or.inl ⟨by rfl, ?_⟩) ?_ ?_
       rotate_left
       ·
        intro w'
        go_simp
        with_reducible rfl
       rotate_left
       ·
        simp only [Act.put, List.setIfInBounds_toArray, List.set_cons_zero, List.set_cons_succ, i64_w, i32_w]
        rfl
       refine pure_ (i := 4) (N := some 21) (v := ?_) (a' := ?_) #[true, true, true, true, true, false, true, false, false, false, false, false, false, false, false, false, false, false, false, false] rfl rfl (any_of HT_.out (by kernel_rfl)) (fun _ _ _ h => h) (Or.inl ⟨by rfl, ?_⟩) ?_ ?_
       rotate_left
       ·
        intro w'
        go_simp
        with_reducible rfl
       rotate_left
       ·
        simp only [Act.put, List.setIfInBounds_toArray, List.set_cons_zero, List.set_cons_succ, i64_w, i32_w]
        rfl
       refine take_ (i := 5) (N := some 22) (v := ?_) (a' := ?_) #[true, true, true, true, true, true, true, false, false, false, false, false, false, false, false, false, false, false, false, false] rfl rfl (take_ofW HT_.out HW_.out (by kernel_rfl)) (fun _ _ _ h => h) (Or.inl ⟨by rfl, ?_⟩) hHeld ?_ ?_
       rotate_left
       ·
        rintro w' ⟨s0, s1, s2, s3, s4, s5, s6, s7, s8, s9, s10, s11, s12, s13⟩
        go_simp
        with_reducible rfl
       rotate_left
       ·
        simp only [Act.put, List.setIfInBounds_toArray, List.set_cons_zero, List.set_cons_succ, i64_w, i32_w]
        rfl
       refine take_ (i := 7) (N := some 24) (v := ?_) (a' := ?_) #[true, true, true, true, true, true, true, true, false, false, false, false, false, false, false, false, false, false, false, false] rfl rfl (take_ofW HT_.out HW_.out (by kernel_rfl)) (fun _ _ _ h => h) (Or.inl ⟨by rfl, ?_⟩) hHeld ?_ ?_
       rotate_left
       ·
        rintro w' ⟨s0, s1, s2, s3, s4, s5, s6, s7, s8, s9, s10, s11, s12, s13⟩
        go_simp
        with_reducible rfl
       rotate_left
       ·
        simp only [Act.put, List.setIfInBounds_toArray, List.set_cons_zero, List.set_cons_succ, i64_w, i32_w]
        rfl
       refine pure_ (i := 8) (N := some 25) (v := ?_) (a' := ?_) #[true, true, true, true, true, true, true, true, true, false, false, false, false, false, false, false, false, false, false, false] rfl rfl (any_of HT_.out (by kernel_rfl)) (fun _ _ _ h => h) (Or.inl ⟨by rfl, ?_⟩) ?_ ?_
       rotate_left
       ·
        intro w'
        go_simp
        with_reducible rfl
       rotate_left
       ·
        simp only [Act.put, List.setIfInBounds_toArray, List.set_cons_zero, List.set_cons_succ, i64_w, i32_w]
        rfl
       refine pure_ (i := 9) (N := some 26) (v := ?_) (a' := ?_) #[true, true, true, true, true, true, true, true, true, true, false, false, false, false, false, false, false, false, false, false] rfl rfl (any_of HT_.out (by kernel_rfl)) (fun _ _ _ h => h) (Or.inl ⟨by rfl, ?_⟩) ?_ ?_
       rotate_left
       ·
        intro w'
        go_simp
        with_reducible rfl
       rotate_left
       ·
        simp only [Act.put, List.setIfInBounds_toArray, List.set_cons_zero, List.set_cons_succ, i64_w, i32_w]
        rfl
       refine pure_ (i := 10) (N := some 27) (v := ?_) (a' := ?_) #[true, true, true, true, true, true, true, true, true, true, true, false, false, false, false, false, false, false, false, false] rfl rfl (any_of HT_.out (by kernel_rfl)) (fun _ _ _ h => h) (Or.inl ⟨by rfl, ?_⟩) ?_ ?_
       rotate_left
       ·
        intro w'
        go_simp
        with_reducible rfl
       rotate_left
       ·
        simp only [Act.put, List.setIfInBounds_toArray, List.set_cons_zero, List.set_cons_succ, i64_w, i32_w]
        rfl
       refine pure_ (i := 12) (N := some 29) (v := ?_) (a' := ?_) #[true, true, true, true, true, true, true, true, true, true, true, false, true, false, false, false, false, false, false, false] rfl rfl (any_of HT_.out (by kernel_rfl)) (fun _ _ _ h => h) (Or.inl ⟨by rfl, ?_⟩) ?_ ?_
       rotate_left
       ·
        intro w'
        go_simp
        with_reducible rfl
       rotate_left
       ·
        simp only [Act.put, List.setIfInBounds_toArray, List.set_cons_zero, List.set_cons_succ, i64_w, i32_w]
        rfl
       refine pure_ (i := 16) (N := some 33) (v := ?_) (a' := ?_) #[true, true, true, true, true, true, true, true, true, true, true, false, true, false, false, false, true, false, false, false] rfl rfl (any_of HT_.out (by kernel_rfl)) (fun _ _ _ h => h) (Or.inl ⟨by rfl, ?_⟩) ?_ ?_
       rotate_left
       ·
        intro w'
        go_simp
        with_reducible rfl
       rotate_left
       ·
        simp only [Act.put, List.setIfInBounds_toArray, List.set_cons_zero, List.set_cons_succ, i64_w, i32_w]
        rfl
       refine take_ (i := 11) (N := some 28) (v := ?_) (a' := ?_) #[true, true, true, true, true, true, true, true, true, true, true, true, true, false, false, false, true, false, false, false] rfl rfl (take_ofW HT_.out HW_.out (by kernel_rfl)) (fun _ _ _ h => h) (Or.inl ⟨by rfl, ?_⟩) hHeld ?_ ?_
       rotate_left
       ·
        rintro w' ⟨s0, s1, s2, s3, s4, s5, s6, s7, s8, s9, s10, s11, s12, s13⟩
        go_simp
        with_reducible rfl
       rotate_left
       ·
        simp only [Act.put, List.setIfInBounds_toArray, List.set_cons_zero, List.set_cons_succ, i64_w, i32_w]
        rfl
       refine pure_ (i := 13) (N := some 30) (v := ?_) (a' := ?_) #[true, true, true, true, true, true, true, true, true, true, true, true, true, true, false, false, true, false, false, false] rfl rfl (any_of HT_.out (by kernel_rfl)) (fun _ _ _ h => h) (Or.inl ⟨by rfl, ?_⟩) ?_ ?_
       rotate_left
       ·
        intro w'
        go_simp
        with_reducible rfl
       rotate_left
       ·
        simp only [Act.put, List.setIfInBounds_toArray, List.set_cons_zero, List.set_cons_succ, i64_w, i32_w]
        rfl
       refine pure_ (i := 14) (N := some 31) (v := ?_) (a' := ?_) #[true, true, true, true, true, true, true, true, true, true, true, true, true, true, true, false, true, false, false, false] rfl rfl (any_of HT_.out (by kernel_rfl)) (fun _ _ _ h => h) (Or.inl ⟨by rfl, ?_⟩) ?_ ?_
       rotate_left
       ·
        intro w'
        go_simp
        with_reducible rfl
       rotate_left
       ·
        simp only [Act.put, List.setIfInBounds_toArray, List.set_cons_zero, List.set_cons_succ, i64_w, i32_w]
        rfl
       refine take_ (i := 15) (N := some 32) (v := ?_) (a' := ?_) #[true, true, true, true, true, true, true, true, true, true, true, true, true, true, true, true, true, false, false, false] rfl rfl (take_ofW HT_.out HW_.out (by kernel_rfl)) (fun _ _ _ h => h) (Or.inl ⟨by rfl, ?_⟩) hHeld ?_ ?_
       rotate_left
       ·
        rintro w' ⟨s0, s1, s2, s3, s4, s5, s6, s7, s8, s9, s10, s11, s12, s13⟩
        go_simp
        with_reducible rfl
       rotate_left
       ·
        simp only [Act.put, List.setIfInBounds_toArray, List.set_cons_zero, List.set_cons_succ, i64_w, i32_w]
        rfl
       refine take_ (i := 17) (N := some 34) (v := ?_) (a' := ?_) #[true, true, true, true, true, true, true, true, true, true, true, true, true, true, true, true, true, true, false, false] rfl rfl (take_ofW HT_.out HW_.out (by kernel_rfl)) (fun _ _ _ h => h) (Or.inl ⟨by rfl, ?_⟩) hHeld ?_ ?_
       rotate_left
       ·
        rintro w' ⟨s0, s1, s2, s3, s4, s5, s6, s7, s8, s9, s10, s11, s12, s13⟩
        go_simp
        with_reducible rfl
       rotate_left
       ·
        simp only [Act.put, List.setIfInBounds_toArray, List.set_cons_zero, List.set_cons_succ, i64_w, i32_w]
        rfl
       refine pure_ (i := 18) (N := some 35) (v := ?_) (a' := ?_) #[true, true, true, true, true, true, true, true, true, true, true, true, true, true, true, true, true, true, true, false] rfl rfl (any_of HT_.out (by kernel_rfl)) (fun _ _ _ h => h) (Or.inl ⟨by rfl, ?_⟩) ?_ ?_
       rotate_left
       ·
        intro w'
        go_simp
        with_reducible rfl
       rotate_left
       ·
        simp only [Act.put, List.setIfInBounds_toArray, List.set_cons_zero, List.set_cons_succ, i64_w, i32_w]
        rfl
       refine pure_ (i := 19) (N := some 36) (v := ?_) (a' := ?_) #[true, true, true, true, true, true, true, true, true, true, true, true, true, true, true, true, true, true, true, true] rfl rfl (any_of HT_.out (by kernel_rfl)) (fun _ _ _ h => h) (Or.inl ⟨by rfl, ?_⟩) ?_ ?_
       rotate_left
       ·
        intro w'
        go_simp
        with_reducible rfl
       rotate_left
       ·
        simp only [Act.put, List.setIfInBounds_toArray, List.set_cons_zero, List.set_cons_succ, i64_w, i32_w]
        rfl
       refine done_ (done_of HT_.out (by kernel_rfl)) ?_
       try go_wp2
       go_meet
       case rel => exact ⟨_, ((((rd_T29 l0_1 x6_1).f1) != a1_1)), (by first | rfl | (simp; done) | (simp [*]; done)), H', ⟨by have := HK1.out; first | omega | exact Nat.le_refl _⟩, ⟨by (with_reducible repeat (first | apply Kd.V_alloc | apply Kd.V_drewN | apply Kd.V_drew)); exact HO_372000.out⟩, ⟨by (with_reducible repeat (first | apply Kd.V_alloc | apply Kd.V_drewN | apply Kd.V_drew)); exact HO_375000.out⟩, ⟨by (with_reducible repeat (first | apply Kd.R_alloc | apply Kd.R_drewN | apply Kd.R_drew)); exact HO_375001.out⟩, ⟨by (with_reducible repeat (first | refine blk_drewN ?_ _ | refine blk_drew ?_ | refine blk_alloc ?_ _)); exact BK371.out⟩, ⟨by (with_reducible repeat (first | refine blk_drewN ?_ _ | refine blk_drew ?_ | refine blk_alloc ?_ _)); exact BK372.out⟩, ⟨by (with_reducible repeat (first | refine blk_drewN ?_ _ | refine blk_drew ?_ | refine blk_alloc ?_ _)); exact BK373.out⟩, ⟨by (with_reducible repeat (first | refine blk_drewN ?_ _ | refine blk_drew ?_ | refine blk_alloc ?_ _)); exact BK374.out⟩, ⟨by repeat (first | (with_reducible first | exact HB.out | apply below_alloc | apply pw_below_drewN | apply below_drew1 | refine below_set ?_ GE371.out | refine below_set ?_ GE372.out | refine below_set ?_ GE373.out | refine below_set ?_ GE374.out) | exact HB.out)⟩⟩
      ·
       rw [if_neg c21] at H
       have c21b0 : (((rd_T29 l0_1 x6_1).f0) == a1_0) = false := beq_eq_false_iff_ne.mpr c21
       have c21b1 : (((rd_T29 l0_1 x6_1).f0) != a1_0) = true := bne_iff_ne.mpr c21
       have H' := Aside0.mk H
       clear H
       try go_wp2
       have n0_ := Aside0.mk (Kd.V_drew HO_372000.out)
       have n1_ := Aside0.mk (Kd.V_drew HO_375000.out)
       have n2_ := Aside0.mk (Kd.R_drew HO_375001.out)
       have n3_ := Aside0.mk (blk_drew BK371.out)
       have n4_ := Aside0.mk (blk_drew BK372.out)
       have n5_ := Aside0.mk (blk_drew BK373.out)
       have n6_ := Aside0.mk (blk_drew BK374.out)
       have n7_ := Aside0.mk (below_drew1 HB.out)
       clear HO_372000
       clear HO_375000
       clear HO_375001
       clear BK371
       clear BK372
       clear BK373
       clear BK374
       clear HB
       have HO_372000 := n0_
       have HO_375000 := n1_
       have HO_375001 := n2_
       have BK371 := n3_
       have BK372 := n4_
       have BK373 := n5_
       have BK374 := n6_
       have HB := n7_
       clear n0_ n1_ n2_ n3_ n4_ n5_ n6_ n7_
       have p375 : 0 ≤ (x6_1 : Int) := of_decide_eq_true (by first | (with_reducible assumption) | assumption)
       have q375 : x6_1 < (l0_1.length : Int) := of_decide_eq_true (by first | (with_reducible assumption) | assumption)
       obtain ⟨ad375, e375, hx375_0, hx375_1, hx375_2, hx375_3⟩ := at_T29 HR0_1.out x6_1 p375 q375
       have hw375_3 := hx375_3
       have hw375_2 := hx375_2
       have hw375_1 := hx375_1
       have hw375_0 := hx375_0
       cases e375
       replace hx375_0 := (HB.out.cell (World.block_lt_of_cell? w _ hx375_0)).trans hx375_0
       replace hx375_1 := (HB.out.cell (World.block_lt_of_cell? w _ hx375_1)).trans hx375_1
       replace hx375_2 := (HB.out.cell (World.block_lt_of_cell? w _ hx375_2)).trans hx375_2
       replace hx375_3 := (HB.out.cell (World.block_lt_of_cell? w _ hx375_3)).trans hx375_3
       replace p375 := eq_true p375
       replace q375 := eq_true q375
       refine start_ (n := 20) (S := fun w' => w'.cell? ⟨gb371, 0, none⟩ = some (.slice A0_0 l0_0.length c0_0) ∧ w'.cell? ⟨gb371, 1, none⟩ = some (.slice (some ad375) l0_1.length c0_1) ∧ w'.cell? ⟨gb372, 0, none⟩ = some (.int .i64 a1_0) ∧ w'.cell? ⟨gb372, 1, none⟩ = some (.int .i64 a1_1) ∧ w'.cell? ⟨gb372, 2, none⟩ = some (.int .i64 a1_2) ∧ w'.cell? ⟨gb372, 3, none⟩ = some (.int .i64 a1_3) ∧ w'.cell? (ad375.add ((x6_1).toNat * 4)) = some (.int .i64 ((rd_T29 l0_1 x6_1).f0)) ∧ w'.cell? ⟨(ad375.add ((x6_1).toNat * 4)).block, (ad375.add ((x6_1).toNat * 4)).off + 1, none⟩ = some (.int .i64 ((rd_T29 l0_1 x6_1).f1)) ∧ w'.cell? ⟨(ad375.add ((x6_1).toNat * 4)).block, (ad375.add ((x6_1).toNat * 4)).off + 2, none⟩ = some (.int .i64 ((rd_T29 l0_1 x6_1).f2)) ∧ w'.cell? ⟨(ad375.add ((x6_1).toNat * 4)).block, (ad375.add ((x6_1).toNat * 4)).off + 3, none⟩ = some (.int .i64 ((rd_T29 l0_1 x6_1).f3))) (ds := []) #[false, false, false, false, false, false, false, false, false, false, false, false, false, false, false, false, false, false, false, false] (by kernel_rfl) rfl rfl ⟨(blk_cell BK371.out 0).trans rfl, (blk_cell BK371.out 1).trans rfl, (blk_cell BK372.out 0).trans rfl, (blk_cell BK372.out 1).trans rfl, (blk_cell BK372.out 2).trans rfl, (blk_cell BK372.out 3).trans rfl, ((HB.out.cell (World.block_lt_of_cell? w _ hw375_0)).trans hw375_0), ((HB.out.cell (World.block_lt_of_cell? w _ hw375_1)).trans hw375_1), ((HB.out.cell (World.block_lt_of_cell? w _ hw375_2)).trans hw375_2), ((HB.out.cell (World.block_lt_of_cell? w _ hw375_3)).trans hw375_3)⟩ (fun hHeld => ?_); refine with_tabW interchangeref13_put.tab5 interchangeref13_put.bits5 (fun HT_ HW_ => ?_)
       generalize wr.drew = w23 at HO_372000 HO_375000 HO_375001 BK371 BK372 BK373 BK374 HB hx375_0 hx375_1 hx375_2 hx375_3 hHeld ⊢
       refine pure_ (i := 0) (N := some 17) (v := ?_) (a' := ?_) #[true, false, false, false, false, false, false, false, false, false, false, false, false, false, false, false, false, false, false, false] rfl rfl (any_of HT_.out (by kernel_rfl)) (fun _ _ _ h => h) (Or.inl ⟨by rfl, ?_⟩) ?_ ?_
       rotate_left
       ·
        intro w'
        go_simp
        with_reducible rfl
       rotate_left
       ·
        simp only [Act.put, List.setIfInBounds_toArray, List.set_cons_zero, List.set_cons_succ, i64_w, i32_w]
        rfl
       refine pure_ (i := 2) (N := some 19) (v := ?_) (a' := ?_) #[true, false, true, false, false, false, false, false, false, false, false, false, false, false, false, false, false, false, false, false] rfl rfl (any_of HT_.out (by kernel_rfl)) (fun _ _ _ h => h) (Or.inl ⟨by rfl, ?_⟩) ?_ ?_
       rotate_left
       ·
        intro w'
        go_simp
        with_reducible rfl
       rotate_left
       ·
        simp only [Act.put, List.setIfInBounds_toArray, List.set_cons_zero, List.set_cons_succ, i64_w, i32_w]
        rfl
       refine pure_ (i := 6) (N := some 23) (v := ?_) (a' := ?_) #[true, false, true, false, false, false, true, false, false, false, false, false, false, false, false, false, false, false, false, false] rfl rfl (any_of HT_.out (by kernel_rfl)) (fun _ _ _ h => h) (Or.inl ⟨by rfl, ?_⟩) ?_ ?_
       rotate_left
       ·
        intro w'
        go_simp
        with_reducible rfl
       rotate_left
       ·
        simp only [Act.put, List.setIfInBounds_toArray, List.set_cons_zero, List.set_cons_succ, i64_w, i32_w]
        rfl
       refine take_ (i := 1) (N := some 18) (v := ?_) (a' := ?_) #[true, true, true, false, false, false, true, false, false, false, false, false, false, false, false, false, false, false, false, false] rfl rfl (take_ofW HT_.out HW_.out (by kernel_rfl)) (fun _ _ _ h => h) (Or.inl ⟨by rfl, ?_⟩) hHeld ?_ ?_
       rotate_left
       ·
        rintro w' ⟨s0, s1, s2, s3, s4, s5, s6, s7, s8, s9⟩
        go_simp
        with_reducible rfl
       rotate_left
       ·
        simp only [Act.put, List.setIfInBounds_toArray, List.set_cons_zero, List.set_cons_succ, i64_w, i32_w]
        rfl
       refine pure_ (i := 3) (N := some 20) (v := ?_) (a' := ?_) #[true, true, true, true, false, false, true, false, false, false, false, false, false, false, false, false, false, false, false, false] rfl rfl (any_of HT_.out (by kernel_rfl)) (fun _ _ _ h => h) (Or.inl ⟨by rfl, ?_⟩) ?_ ?_
       rotate_left
       ·
        intro w'
        go_simp
        with_reducible rfl
       rotate_left
       ·
        simp only [Act.put, List.setIfInBounds_toArray, List.set_cons_zero, List.set_cons_succ, i64_w, i32_w]
        rfl
       refine pure_ (i := 4) (N := some 21) (v := ?_) (a' := ?_) #[true, true, true, true, true, false, true, false, false, false, false, false, false, false, false, false, false, false, false, false] rfl rfl (any_of HT_.out (by kernel_rfl)) (fun _ _ _ h => h) (Or.inl ⟨by rfl, ?_⟩) ?_ ?_
       rotate_left
       ·
        intro w'
        go_simp
        with_reducible rfl
       rotate_left
       ·
        simp only [Act.put, List.setIfInBounds_toArray, List.set_cons_zero, List.set_cons_succ, i64_w, i32_w]
        rfl
       refine take_ (i := 5) (N := some 22) (v := ?_) (a' := ?_) #[true, true, true, true, true, true, true, false, false, false, false, false, false, false, false, false, false, false, false, false] rfl rfl (take_ofW HT_.out HW_.out (by kernel_rfl)) (fun _ _ _ h => h) (Or.inl ⟨by rfl, ?_⟩) hHeld ?_ ?_
       rotate_left
       ·
        rintro w' ⟨s0, s1, s2, s3, s4, s5, s6, s7, s8, s9⟩
        go_simp
        with_reducible rfl
       rotate_left
       ·
        simp only [Act.put, List.setIfInBounds_toArray, List.set_cons_zero, List.set_cons_succ, i64_w, i32_w]
        rfl
       refine take_ (i := 7) (N := some 24) (v := ?_) (a' := ?_) #[true, true, true, true, true, true, true, true, false, false, false, false, false, false, false, false, false, false, false, false] rfl rfl (take_ofW HT_.out HW_.out (by kernel_rfl)) (fun _ _ _ h => h) (Or.inl ⟨by rfl, ?_⟩) hHeld ?_ ?_
       rotate_left
       ·
        rintro w' ⟨s0, s1, s2, s3, s4, s5, s6, s7, s8, s9⟩
        go_simp
        with_reducible rfl
       rotate_left
       ·
        simp only [Act.put, List.setIfInBounds_toArray, List.set_cons_zero, List.set_cons_succ, i64_w, i32_w]
        rfl
       refine pure_ (i := 8) (N := some 25) (v := ?_) (a' := ?_) #[true, true, true, true, true, true, true, true, true, false, false, false, false, false, false, false, false, false, false, false] rfl rfl (any_of HT_.out (by kernel_rfl)) (fun _ _ _ h => h) (Or.inl ⟨by rfl, ?_⟩) ?_ ?_
       rotate_left
       ·
        intro w'
        go_simp
        with_reducible rfl
       rotate_left
       ·
        simp only [Act.put, List.setIfInBounds_toArray, List.set_cons_zero, List.set_cons_succ, i64_w, i32_w]
        rfl
       refine pure_ (i := 9) (N := some 26) (v := ?_) (a' := ?_) #[true, true, true, true, true, true, true, true, true, true, false, false, false, false, false, false, false, false, false, false] rfl rfl (any_of HT_.out (by kernel_rfl)) (fun _ _ _ h => h) (Or.inl ⟨by rfl, ?_⟩) ?_ ?_
       rotate_left
       ·
        intro w'
        go_simp
        with_reducible rfl
       rotate_left
       ·
        simp only [Act.put, List.setIfInBounds_toArray, List.set_cons_zero, List.set_cons_succ, i64_w, i32_w]
        rfl
       refine pure_ (i := 10) (N := some 27) (v := undef) (a' := ?_) #[true, true, true, true, true, true, true, true, true, true, true, false, false, false, false, false, false, false, false, false] rfl rfl (any_of HT_.out (by kernel_rfl)) (fun _ _ _ h => h) (Or.inr ⟨by rfl, rfl⟩) ?_ ?_
       rotate_left
       ·
        simp only [Act.put, List.setIfInBounds_toArray, List.set_cons_zero, List.set_cons_succ, i64_w, i32_w]
        rfl
       refine pure_ (i := 11) (N := some 28) (v := undef) (a' := ?_) #[true, true, true, true, true, true, true, true, true, true, true, true, false, false, false, false, false, false, false, false] rfl rfl (any_of HT_.out (by kernel_rfl)) (fun _ _ _ h => h) (Or.inr ⟨by rfl, rfl⟩) ?_ ?_
       rotate_left
       ·
        simp only [Act.put, List.setIfInBounds_toArray, List.set_cons_zero, List.set_cons_succ, i64_w, i32_w]
        rfl
       refine pure_ (i := 12) (N := some 29) (v := undef) (a' := ?_) #[true, true, true, true, true, true, true, true, true, true, true, true, true, false, false, false, false, false, false, false] rfl rfl (any_of HT_.out (by kernel_rfl)) (fun _ _ _ h => h) (Or.inr ⟨by rfl, rfl⟩) ?_ ?_
       rotate_left
       ·
        simp only [Act.put, List.setIfInBounds_toArray, List.set_cons_zero, List.set_cons_succ, i64_w, i32_w]
        rfl
       refine pure_ (i := 13) (N := some 30) (v := undef) (a' := ?_) #[true, true, true, true, true, true, true, true, true, true, true, true, true, true, false, false, false, false, false, false] rfl rfl (any_of HT_.out (by kernel_rfl)) (fun _ _ _ h => h) (Or.inr ⟨by rfl, rfl⟩) ?_ ?_
       rotate_left
       ·
        simp only [Act.put, List.setIfInBounds_toArray, List.set_cons_zero, List.set_cons_succ, i64_w, i32_w]
        rfl
       refine pure_ (i := 14) (N := some 31) (v := undef) (a' := ?_) #[true, true, true, true, true, true, true, true, true, true, true, true, true, true, true, false, false, false, false, false] rfl rfl (any_of HT_.out (by kernel_rfl)) (fun _ _ _ h => h) (Or.inr ⟨by rfl, rfl⟩) ?_ ?_
       rotate_left
       ·
        simp only [Act.put, List.setIfInBounds_toArray, List.set_cons_zero, List.set_cons_succ, i64_w, i32_w]
        rfl
       refine pure_ (i := 15) (N := some 32) (v := undef) (a' := ?_) #[true, true, true, true, true, true, true, true, true, true, true, true, true, true, true, true, false, false, false, false] rfl rfl (any_of HT_.out (by kernel_rfl)) (fun _ _ _ h => h) (Or.inr ⟨by rfl, rfl⟩) ?_ ?_
       rotate_left
       ·
        simp only [Act.put, List.setIfInBounds_toArray, List.set_cons_zero, List.set_cons_succ, i64_w, i32_w]
        rfl
       refine pure_ (i := 16) (N := some 33) (v := undef) (a' := ?_) #[true, true, true, true, true, true, true, true, true, true, true, true, true, true, true, true, true, false, false, false] rfl rfl (any_of HT_.out (by kernel_rfl)) (fun _ _ _ h => h) (Or.inr ⟨by rfl, rfl⟩) ?_ ?_
       rotate_left
       ·
        simp only [Act.put, List.setIfInBounds_toArray, List.set_cons_zero, List.set_cons_succ, i64_w, i32_w]
        rfl
       refine pure_ (i := 17) (N := some 34) (v := undef) (a' := ?_) #[true, true, true, true, true, true, true, true, true, true, true, true, true, true, true, true, true, true, false, false] rfl rfl (any_of HT_.out (by kernel_rfl)) (fun _ _ _ h => h) (Or.inr ⟨by rfl, rfl⟩) ?_ ?_
       rotate_left
       ·
        simp only [Act.put, List.setIfInBounds_toArray, List.set_cons_zero, List.set_cons_succ, i64_w, i32_w]
        rfl
       refine pure_ (i := 18) (N := some 35) (v := undef) (a' := ?_) #[true, true, true, true, true, true, true, true, true, true, true, true, true, true, true, true, true, true, true, false] rfl rfl (any_of HT_.out (by kernel_rfl)) (fun _ _ _ h => h) (Or.inr ⟨by rfl, rfl⟩) ?_ ?_
       rotate_left
       ·
        simp only [Act.put, List.setIfInBounds_toArray, List.set_cons_zero, List.set_cons_succ, i64_w, i32_w]
        rfl
       refine pure_ (i := 19) (N := some 36) (v := ?_) (a' := ?_) #[true, true, true, true, true, true, true, true, true, true, true, true, true, true, true, true, true, true, true, true] rfl rfl (any_of HT_.out (by kernel_rfl)) (fun _ _ _ h => h) (Or.inl ⟨by rfl, ?_⟩) ?_ ?_
       rotate_left
       ·
        intro w'
        go_simp
        with_reducible rfl
       rotate_left
       ·
        simp only [Act.put, List.setIfInBounds_toArray, List.set_cons_zero, List.set_cons_succ, i64_w, i32_w]
        rfl
       refine done_ (done_of HT_.out (by kernel_rfl)) ?_
       try go_wp2
       go_meet
       case rel => exact ⟨_, (true), (by first | rfl | (simp; done) | (simp [*]; done)), H', ⟨by have := HK1.out; first | omega | exact Nat.le_refl _⟩, ⟨by (with_reducible repeat (first | apply Kd.V_alloc | apply Kd.V_drewN | apply Kd.V_drew)); exact HO_372000.out⟩, ⟨by (with_reducible repeat (first | apply Kd.V_alloc | apply Kd.V_drewN | apply Kd.V_drew)); exact HO_375000.out⟩, ⟨by (with_reducible repeat (first | apply Kd.R_alloc | apply Kd.R_drewN | apply Kd.R_drew)); exact HO_375001.out⟩, ⟨by (with_reducible repeat (first | refine blk_drewN ?_ _ | refine blk_drew ?_ | refine blk_alloc ?_ _)); exact BK371.out⟩, ⟨by (with_reducible repeat (first | refine blk_drewN ?_ _ | refine blk_drew ?_ | refine blk_alloc ?_ _)); exact BK372.out⟩, ⟨by (with_reducible repeat (first | refine blk_drewN ?_ _ | refine blk_drew ?_ | refine blk_alloc ?_ _)); exact BK373.out⟩, ⟨by (with_reducible repeat (first | refine blk_drewN ?_ _ | refine blk_drew ?_ | refine blk_alloc ?_ _)); exact BK374.out⟩, ⟨by repeat (first | (with_reducible first | exact HB.out | apply below_alloc | apply pw_below_drewN | apply below_drew1 | refine below_set ?_ GE371.out | refine below_set ?_ GE372.out | refine below_set ?_ GE373.out | refine below_set ?_ GE374.out) | exact HB.out)⟩⟩
     ·
      rw [if_neg c20] at H
      exact absurd H (by simp)
    case rest =>
     clear HC15
     (try clear c1); (try clear c2); (try clear p2); (try clear p3); (try clear q3); (try clear hx3); (try clear c4); (try clear c6); (try clear c7); (try clear c10); (try clear c11); (try clear c12); (try clear c14); (try clear c14b0); (try clear c16); (try clear c17); (try clear c18); (try clear c20); (try clear c20b0); (try clear c21); (try clear c21b0); (try clear c21b1); (try clear hcz13_0); (try clear hcz13_1); (try clear hcz19_0); (try clear hcz19_1); (try clear hcz8_0); (try clear hcz8_1); (try clear hfz13_0); (try clear hfz13_1); (try clear hfz19_0); (try clear hfz19_1); (try clear hfz8_0); (try clear hfz8_1); (try clear hx375_0); (try clear hx375_1); (try clear hx375_2); (try clear hx375_3); (try clear hx376_0); (try clear hx376_1); (try clear hx376_2); (try clear hx376_3); (try clear p2); (try clear p375); (try clear p376); (try clear q375); (try clear q376)
     obtain ⟨kq, x36_14, rfl, HA, HJ14, HO_372000, HO_375000, HO_375001, BK371, BK372, BK373, BK374, HB⟩ := hcut
     cases kq with
     | zero => exact absurd HA.out (by simp [interchangeref13_put.j1])
     | succ kj14 =>
      have H := HA.out
      clear HA
      simp only [interchangeref13_put.j1] at H
      by_cases c24 : x36_14 = true
      ·
       subst c24
       have H1 : (if 0 ≤ x6_1 then (if x6_1 < (l0_1.length : Int) then (if x375001_1.length < 4398046511104 then (interchangeref13_put.l0 kj14 (wrap64 (x6_1 + 1)) l0_0 l0_1 a1_0 a1_1 a1_2 a1_3 l0_0 (x375001_1 ++ [(⟨(rd_T29 l0_1 x6_1).f0, (rd_T29 l0_1 x6_1).f1, (rd_T29 l0_1 x6_1).f2, (rd_T29 l0_1 x6_1).f3⟩ : S29)])) else (none)) else (none)) else (none)) = some (r1, r2) := by rw [if_pos rfl] at H; exact H
       clear H
       have H := H1
       clear H1
       by_cases c25 : 0 ≤ x6_1
       ·
        rw [if_pos c25] at H
        have c25b0 : decide (0 ≤ x6_1) = true := decide_eq_true c25
        clear c25
        by_cases c26 : x6_1 < (l0_1.length : Int)
        ·
         rw [if_pos c26] at H
         have c26b0 : decide (x6_1 < (l0_1.length : Int)) = true := decide_eq_true c26
         clear c26
         by_cases c27 : x375001_1.length < 4398046511104
         ·
          rw [if_pos c27] at H
          have LMc27 := Aside0.mk c27
          clear c27
          obtain ⟨y378, hy378⟩ : ∃ y_ : List (S29), y_ = (x375001_1 ++ [(⟨(rd_T29 l0_1 x6_1).f0, (rd_T29 l0_1 x6_1).f1, (rd_T29 l0_1 x6_1).f2, (rd_T29 l0_1 x6_1).f3⟩ : S29)]) := ⟨_, rfl⟩
          replace H : (interchangeref13_put.l0 kj14 (wrap64 (x6_1 + 1)) l0_0 l0_1 a1_0 a1_1 a1_2 a1_3 l0_0 y378) = some (r1, r2) := by first | (rw [hy378]; with_reducible exact H) | (have H2_ := (Option.bind_some _ _).symm.trans H; rw [hy378]; with_reducible exact H2_) | (have H2_ := (Option.bind_some _ _).symm.trans H; with_reducible exact H2_) | with_reducible exact H | (rw [hy378]; exact H) | exact H
          have Ny378 := Aside0.mk hy378
          clear hy378
          have H' := Aside0.mk H
          clear H
          try go_wp2
          have n0_ := Aside0.mk (Kd.V_drew HO_372000.out)
          have n1_ := Aside0.mk (Kd.V_drew HO_375000.out)
          have n2_ := Aside0.mk (Kd.R_drew HO_375001.out)
          have n3_ := Aside0.mk (blk_drew BK371.out)
          have n4_ := Aside0.mk (blk_drew BK372.out)
          have n5_ := Aside0.mk (blk_drew BK373.out)
          have n6_ := Aside0.mk (blk_drew BK374.out)
          have n7_ := Aside0.mk (below_drew1 HB.out)
          clear HO_372000
          clear HO_375000
          clear HO_375001
          clear BK371
          clear BK372
          clear BK373
          clear BK374
          clear HB
          have HO_372000 := n0_
          have HO_375000 := n1_
          have HO_375001 := n2_
          have BK371 := n3_
          have BK372 := n4_
          have BK373 := n5_
          have BK374 := n6_
          have HB := n7_
          clear n0_ n1_ n2_ n3_ n4_ n5_ n6_ n7_
          have p377 : 0 ≤ (x6_1 : Int) := of_decide_eq_true (by first | (with_reducible assumption) | assumption)
          have q377 : x6_1 < (l0_1.length : Int) := of_decide_eq_true (by first | (with_reducible assumption) | assumption)
          obtain ⟨ad377, e377, hx377_0, hx377_1, hx377_2, hx377_3⟩ := at_T29 HR0_1.out x6_1 p377 q377
          have hw377_3 := hx377_3
          have hw377_2 := hx377_2
          have hw377_1 := hx377_1
          have hw377_0 := hx377_0
          cases e377
          replace hx377_0 := (HB.out.cell (World.block_lt_of_cell? w _ hx377_0)).trans hx377_0
          replace hx377_1 := (HB.out.cell (World.block_lt_of_cell? w _ hx377_1)).trans hx377_1
          replace hx377_2 := (HB.out.cell (World.block_lt_of_cell? w _ hx377_2)).trans hx377_2
          replace hx377_3 := (HB.out.cell (World.block_lt_of_cell? w _ hx377_3)).trans hx377_3
          replace p377 := eq_true p377
          replace q377 := eq_true q377
          refine start_ (n := 11) (S := fun w' => w'.cell? ⟨gb374, 0, none⟩ = some (.slice A0_0 l0_0.length c0_0) ∧ w'.cell? ⟨gb374, 1, none⟩ = some (u375001) ∧ w'.cell? ⟨gb371, 0, none⟩ = some (.slice A0_0 l0_0.length c0_0) ∧ w'.cell? ⟨gb371, 1, none⟩ = some (.slice (some ad377) l0_1.length c0_1) ∧ w'.cell? (ad377.add ((x6_1).toNat * 4)) = some (.int .i64 ((rd_T29 l0_1 x6_1).f0)) ∧ w'.cell? ⟨(ad377.add ((x6_1).toNat * 4)).block, (ad377.add ((x6_1).toNat * 4)).off + 1, none⟩ = some (.int .i64 ((rd_T29 l0_1 x6_1).f1)) ∧ w'.cell? ⟨(ad377.add ((x6_1).toNat * 4)).block, (ad377.add ((x6_1).toNat * 4)).off + 2, none⟩ = some (.int .i64 ((rd_T29 l0_1 x6_1).f2)) ∧ w'.cell? ⟨(ad377.add ((x6_1).toNat * 4)).block, (ad377.add ((x6_1).toNat * 4)).off + 3, none⟩ = some (.int .i64 ((rd_T29 l0_1 x6_1).f3))) (ds := [10]) #[false, false, false, false, false, false, false, false, false, false, false] (by kernel_rfl) rfl rfl ⟨(blk_cell BK374.out 0).trans rfl, (blk_cell BK374.out 1).trans rfl, (blk_cell BK371.out 0).trans rfl, (blk_cell BK371.out 1).trans rfl, ((HB.out.cell (World.block_lt_of_cell? w _ hw377_0)).trans hw377_0), ((HB.out.cell (World.block_lt_of_cell? w _ hw377_1)).trans hw377_1), ((HB.out.cell (World.block_lt_of_cell? w _ hw377_2)).trans hw377_2), ((HB.out.cell (World.block_lt_of_cell? w _ hw377_3)).trans hw377_3)⟩ (fun hHeld => ?_); refine with_tabW interchangeref13_put.tab6 interchangeref13_put.bits6 (fun HT_ HW_ => ?_)
          generalize wc.drew = w28 at HO_372000 HO_375000 HO_375001 BK371 BK372 BK373 BK374 HB hx377_0 hx377_1 hx377_2 hx377_3 hHeld ⊢
          refine pure_ (i := 0) (N := some 37) (v := ?_) (a' := ?_) #[true, false, false, false, false, false, false, false, false, false, false] rfl rfl (any_of HT_.out (by kernel_rfl)) (fun _ _ _ h => h) (Or.inl ⟨by rfl, ?_⟩) ?_ ?_
          rotate_left
          ·
           intro w'
           go_simp
           with_reducible rfl
          rotate_left
          ·
           simp only [Act.put, List.setIfInBounds_toArray, List.set_cons_zero, List.set_cons_succ, i64_w, i32_w]
           rfl
          refine pure_ (i := 2) (N := some 39) (v := ?_) (a' := ?_) #[true, false, true, false, false, false, false, false, false, false, false] rfl rfl (any_of HT_.out (by kernel_rfl)) (fun _ _ _ h => h) (Or.inl ⟨by rfl, ?_⟩) ?_ ?_
          rotate_left
          ·
           intro w'
           go_simp
           with_reducible rfl
          rotate_left
          ·
           simp only [Act.put, List.setIfInBounds_toArray, List.set_cons_zero, List.set_cons_succ, i64_w, i32_w]
           rfl
          refine pure_ (i := 4) (N := some 41) (v := ?_) (a' := ?_) #[true, false, true, false, true, false, false, false, false, false, false] rfl rfl (any_of HT_.out (by kernel_rfl)) (fun _ _ _ h => h) (Or.inl ⟨by rfl, ?_⟩) ?_ ?_
          rotate_left
          ·
           intro w'
           go_simp
           with_reducible rfl
          rotate_left
          ·
           simp only [Act.put, List.setIfInBounds_toArray, List.set_cons_zero, List.set_cons_succ, i64_w, i32_w]
           rfl
          refine take_ (i := 1) (N := some 38) (v := ?_) (a' := ?_) #[true, true, true, false, true, false, false, false, false, false, false] rfl rfl (take_ofW HT_.out HW_.out (by kernel_rfl)) (fun _ _ _ h => h) (Or.inl ⟨by rfl, ?_⟩) hHeld ?_ ?_
          rotate_left
          ·
           rintro w' ⟨s0, s1, s2, s3, s4, s5, s6, s7⟩
           go_simp
           with_reducible rfl
          rotate_left
          ·
           simp only [Act.put, List.setIfInBounds_toArray, List.set_cons_zero, List.set_cons_succ, i64_w, i32_w]
           rfl
          refine take_ (i := 3) (N := some 40) (v := ?_) (a' := ?_) #[true, true, true, true, true, false, false, false, false, false, false] rfl rfl (take_ofW HT_.out HW_.out (by kernel_rfl)) (fun _ _ _ h => h) (Or.inl ⟨by rfl, ?_⟩) hHeld ?_ ?_
          rotate_left
          ·
           rintro w' ⟨s0, s1, s2, s3, s4, s5, s6, s7⟩
           go_simp
           with_reducible rfl
          rotate_left
          ·
           simp only [Act.put, List.setIfInBounds_toArray, List.set_cons_zero, List.set_cons_succ, i64_w, i32_w]
           rfl
          refine pure_ (i := 5) (N := some 42) (v := ?_) (a' := ?_) #[true, true, true, true, true, true, false, false, false, false, false] rfl rfl (any_of HT_.out (by kernel_rfl)) (fun _ _ _ h => h) (Or.inl ⟨by rfl, ?_⟩) ?_ ?_
          rotate_left
          ·
           intro w'
           go_simp
           with_reducible rfl
          rotate_left
          ·
           simp only [Act.put, List.setIfInBounds_toArray, List.set_cons_zero, List.set_cons_succ, i64_w, i32_w]
           rfl
          refine take_ (i := 6) (N := some 43) (v := ?_) (a' := ?_) #[true, true, true, true, true, true, true, false, false, false, false] rfl rfl (take_ofW HT_.out HW_.out (by kernel_rfl)) (fun _ _ _ h => h) (Or.inl ⟨by rfl, ?_⟩) hHeld ?_ ?_
          rotate_left
          ·
           rintro w' ⟨s0, s1, s2, s3, s4, s5, s6, s7⟩
           go_simp
           with_reducible rfl
          rotate_left
          ·
           simp only [Act.put, List.setIfInBounds_toArray, List.set_cons_zero, List.set_cons_succ, i64_w, i32_w]
           rfl
          refine one_ (i := 7) (N := some 44) #[true, true, true, true, true, true, true, true, false, false, false] rfl rfl (one_of HT_.out (by kernel_rfl)) (by decide) (fun K hK => ?_)
          refine value_ (w1 := ?_) (v := ?_) (by rfl) rfl ?_ ?_
          rotate_left 2
          ·
           go_simp
           constructor
           ·
            rfl
           ·
            rfl
          refine hK.out _ _ ⟨(blk_cell (blk_alloc BK374.out _) 0).trans rfl, (blk_cell (blk_alloc BK374.out _) 1).trans rfl, (blk_cell (blk_alloc BK371.out _) 0).trans rfl, (blk_cell (blk_alloc BK371.out _) 1).trans rfl, (World.cell?_alloc_lt _ _ _ (World.block_lt_of_cell? _ _ (((HB.out.cell (World.block_lt_of_cell? w _ hw377_0)).trans hw377_0)))).trans (((HB.out.cell (World.block_lt_of_cell? w _ hw377_0)).trans hw377_0)), (World.cell?_alloc_lt _ _ _ (World.block_lt_of_cell? _ _ (((HB.out.cell (World.block_lt_of_cell? w _ hw377_1)).trans hw377_1)))).trans (((HB.out.cell (World.block_lt_of_cell? w _ hw377_1)).trans hw377_1)), (World.cell?_alloc_lt _ _ _ (World.block_lt_of_cell? _ _ (((HB.out.cell (World.block_lt_of_cell? w _ hw377_2)).trans hw377_2)))).trans (((HB.out.cell (World.block_lt_of_cell? w _ hw377_2)).trans hw377_2)), (World.cell?_alloc_lt _ _ _ (World.block_lt_of_cell? _ _ (((HB.out.cell (World.block_lt_of_cell? w _ hw377_3)).trans hw377_3)))).trans (((HB.out.cell (World.block_lt_of_cell? w _ hw377_3)).trans hw377_3))⟩ (fun hHeld => ?_)
          clear hK K
          refine norm_ (a' := ?_) ?_ ?_
          rotate_left
          ·
           show Act.put _ (some 44) _ = _
           simp only [Act.put, List.setIfInBounds_toArray, List.set_cons_zero, List.set_cons_succ, i64_w, i32_w]
           rfl
          refine one_ (i := 8) (N := some 45) #[true, true, true, true, true, true, true, true, true, false, false] rfl rfl (one_of HT_.out (by kernel_rfl)) (by decide) (fun K hK => ?_)
          refine Kd.R_append_step k29 (w0 := w) w.heap.size (by rfl) (.tmp 38) (.tmp 44) 23 29 (.agg #[(.int .i64 0), (.int .i64 0), (.int .i64 0), (.int .i64 0)]) 32 rfl Try.underlying23 info29 rfl (by decide) (by omega) u375001 x375001_1 (⟨(rd_T29 l0_1 x6_1).f0, (rd_T29 l0_1 x6_1).f1, (rd_T29 l0_1 x6_1).f2, (rd_T29 l0_1 x6_1).f3⟩ : S29) [.int .i64 ((rd_T29 l0_1 x6_1).f0), .int .i64 ((rd_T29 l0_1 x6_1).f1), .int .i64 ((rd_T29 l0_1 x6_1).f2), .int .i64 ((rd_T29 l0_1 x6_1).f3)] (fun k_ => (w.heap.size ≤ k_) ∧ k_ ≠ gb372) (fun _ => False) rfl rfl ?aP (fun _ hk => hk.elim) ?aF ?aO ?aB ?aS ?aL ?_
          (case aP => exact k29_mkM _ _ _ (⟨(rd_T29 l0_1 x6_1).f0, (rd_T29 l0_1 x6_1).f1, (rd_T29 l0_1 x6_1).f2, (rd_T29 l0_1 x6_1).f3⟩ : S29))
          (case aB => exact (by repeat (first | (with_reducible first | exact HB.out | apply bA | apply bN | apply bD | refine bS ?_ ‹_›) | exact HB.out)))
          (case aF => exact (fun k_ hk => ⟨(Nat.le_trans (below_size (by repeat (first | (with_reducible first | exact HB.out | apply bA | apply bN | apply bD | refine bS ?_ ‹_›) | exact HB.out))) hk), Kd.freshB (g := gb372) (o := .cells #[.int .i64 a1_0, .int .i64 a1_1, .int .i64 a1_2, .int .i64 a1_3] 29 (0, 0)) (bk BK372.out) k_ hk⟩))
          (case aO => exact (rk HO_375001.out))
          (case aS => exact (below_size (by repeat (first | (with_reducible first | exact HB.out | apply bA | apply bN | apply bD | refine bS ?_ ‹_›) | exact HB.out))))
          (case aL => have := LMc27.out; omega)
          intro v379 w29 ho hb hg hat
          rw [← Ny378.out] at ho
          have n0_ := Aside0.mk (Kd.V_afterv (ok := (fun k_ => (P0_0_ k_ ∨ w.heap.size ≤ k_) ∧ k_ ≠ gb371 ∧ k_ ≠ gb372 ∧ k_ ≠ gb373 ∧ k_ ≠ gb374)) (by (with_reducible repeat (first | apply Kd.V_alloc | apply Kd.V_drewN | apply Kd.V_drew)); exact Kd.V_mono HO_372000.out (fun _ hk => ⟨⟨hk.1, ⟨hk.2.2.1, ⟨hk.2.2.2.1, ⟨hk.2.2.2.2.1, hk.2.2.2.2.2⟩⟩⟩⟩, hk.2.1⟩)) hg hat)
          have n1_ := Aside0.mk (Kd.V_afterv (ok := (fun k_ => (P0_0_ k_ ∨ w.heap.size ≤ k_) ∧ k_ ≠ gb371 ∧ k_ ≠ gb372 ∧ k_ ≠ gb373 ∧ k_ ≠ gb374)) (by (with_reducible repeat (first | apply Kd.V_alloc | apply Kd.V_drewN | apply Kd.V_drew)); exact Kd.V_mono HO_375000.out (fun _ hk => ⟨⟨hk.1, ⟨hk.2.2.1, ⟨hk.2.2.2.1, ⟨hk.2.2.2.2.1, hk.2.2.2.2.2⟩⟩⟩⟩, hk.2.1⟩)) hg hat)
          have n2_ := Aside0.mk (blk_grown (bk BK371.out) hg (Kd.R_ne HO_375001.out BK371.out (by decide)))
          have n3_ := Aside0.mk (blk_grown (bk BK372.out) hg (Kd.R_away HO_375001.out (fun _ hk => hk.2)))
          have n4_ := Aside0.mk (blk_grown (bk BK373.out) hg (Kd.R_ne HO_375001.out BK373.out (by decide)))
          have n5_ := Aside0.mk (blk_grown (bk BK374.out) hg (Kd.R_ne HO_375001.out BK374.out (by decide)))
          have n6_ := Aside0.mk (hb)
          have n7_ := Aside0.mk (ho)
          clear HO_372000
          clear HO_375000
          clear BK371
          clear BK372
          clear BK373
          clear BK374
          clear HB
          clear HO_375001
          have HO_372000 := n0_
          have HO_375000 := n1_
          have BK371 := n2_
          have BK372 := n3_
          have BK373 := n4_
          have BK374 := n5_
          have HB := n6_
          have HO380 := n7_
          clear n0_ n1_ n2_ n3_ n4_ n5_ n6_ n7_
          clear ho hb hg hat
          obtain ⟨Ao30, co30, eo30⟩ := Kd.R_slice HO380.out
          (first | subst eo30 | (injection eo30 with f1_ f2_ f3_; have f4_ := f1_.symm; have f5_ := f3_.symm; clear f1_ f2_ f3_; subst f4_; subst f5_))
          refine hK.out _ _ ⟨(blk_cell BK374.out 0).trans rfl, (blk_cell BK374.out 1).trans rfl, (blk_cell BK371.out 0).trans rfl, (blk_cell BK371.out 1).trans rfl, ((HB.out.cell (World.block_lt_of_cell? w _ hw377_0)).trans hw377_0), ((HB.out.cell (World.block_lt_of_cell? w _ hw377_1)).trans hw377_1), ((HB.out.cell (World.block_lt_of_cell? w _ hw377_2)).trans hw377_2), ((HB.out.cell (World.block_lt_of_cell? w _ hw377_3)).trans hw377_3)⟩ (fun hHeld => ?_)
          clear hK K
          refine norm_ (a' := ?_) ?_ ?_
          rotate_left
          ·
           show Act.put _ (some 45) _ = _
           simp only [Act.put, List.setIfInBounds_toArray, List.set_cons_zero, List.set_cons_succ, i64_w, i32_w]
           rfl
          refine pure_ (i := 9) (N := some 46) (v := ?_) (a' := ?_) #[true, true, true, true, true, true, true, true, true, true, false] rfl rfl (any_of HT_.out (by kernel_rfl)) (fun _ _ _ h => h) (Or.inl ⟨by rfl, ?_⟩) ?_ ?_
          rotate_left
          ·
           intro w'
           go_simp
           with_reducible rfl
          rotate_left
          ·
           simp only [Act.put, List.setIfInBounds_toArray, List.set_cons_zero, List.set_cons_succ, i64_w, i32_w]
           rfl
          refine last_ (i := 10) (N := none) #[true, true, true, true, true, true, true, true, true, true, true] rfl rfl (one_of HT_.out (by kernel_rfl)) (by decide) (fun K hK => ?_)
          have hs31 : w29.cell? ⟨gb374, 1, none⟩ = some (u375001) := (blk_cell BK374.out 1).trans rfl
          have hfs31 := blk_frozen BK374.out 1
          have hns31_0 := NB371_374.out
          have hns31_1 := NB372_374.out
          have hns31_2 := NB373_374.out
          have hms31_0 := NB374_371.out
          have hms31_1 := NB374_372.out
          have hms31_2 := NB374_373.out
          refine skip_ (w1 := ?_) (by rfl) rfl ?_ ?_
          rotate_left
          ·
           go_simp
           rfl
          refine hK.out _ _ ?_
          clear hK K
          refine done_ (done_of HT_.out (by kernel_rfl)) ?_
          try go_wp2
          go_roundg kj14
          case measure => have := HK1.out; have := HJ14.out; omega
          case rel => exact ⟨(wrap64 (x6_1 + 1)), (y378), (.slice Ao30 y378.length co30), (by first | rfl | (simp; done) | (simp [*]; done)), H', ⟨by have := HK1.out; have := HJ14.out; omega⟩, ⟨by (with_reducible repeat (first | apply Kd.V_alloc | apply Kd.V_drewN | apply Kd.V_drew)); exact Kd.V_mono (Kd.V_far (p := ⟨gb374, 1, none⟩) (Kd.V_mono HO_372000.out (fun k_ hk => (⟨hk, hk.1.2.2.2.2⟩ : _ ∧ k_ ≠ gb374))) (fun _ hk => hk.2) (.slice Ao30 y378.length co30)) (fun _ hk => ⟨hk.1.1.1, ⟨hk.1.2, ⟨hk.1.1.2.1, ⟨hk.1.1.2.2.1, ⟨hk.1.1.2.2.2.1, hk.1.1.2.2.2.2⟩⟩⟩⟩⟩)⟩, ⟨by (with_reducible repeat (first | apply Kd.V_alloc | apply Kd.V_drewN | apply Kd.V_drew)); exact Kd.V_mono (Kd.V_far (p := ⟨gb374, 1, none⟩) (Kd.V_mono HO_375000.out (fun k_ hk => (⟨hk, hk.1.2.2.2.2⟩ : _ ∧ k_ ≠ gb374))) (fun _ hk => hk.2) (.slice Ao30 y378.length co30)) (fun _ hk => ⟨hk.1.1.1, ⟨hk.1.2, ⟨hk.1.1.2.1, ⟨hk.1.1.2.2.1, ⟨hk.1.1.2.2.2.1, hk.1.1.2.2.2.2⟩⟩⟩⟩⟩)⟩, ⟨by (with_reducible repeat (first | apply Kd.R_alloc | apply Kd.R_drewN | apply Kd.R_drew)); exact Kd.R_mono (Kd.R_far (p := ⟨gb374, 1, none⟩) (Kd.R_types HO380.out BK374.out (by decide)) (fun _ hk => hk.2) (.slice Ao30 y378.length co30)) (fun _ hk => ⟨hk.1.1, hk.1.2⟩)⟩, ⟨by (with_reducible repeat (first | refine blk_drewN ?_ _ | refine blk_drew ?_ | refine blk_alloc ?_ _)); refine blk_far ?_ NB371_374.out _; (with_reducible repeat (first | refine blk_drewN ?_ _ | refine blk_drew ?_ | refine blk_alloc ?_ _)); exact BK371.out⟩, ⟨by (with_reducible repeat (first | refine blk_drewN ?_ _ | refine blk_drew ?_ | refine blk_alloc ?_ _)); refine blk_far ?_ NB372_374.out _; (with_reducible repeat (first | refine blk_drewN ?_ _ | refine blk_drew ?_ | refine blk_alloc ?_ _)); exact BK372.out⟩, ⟨by (with_reducible repeat (first | refine blk_drewN ?_ _ | refine blk_drew ?_ | refine blk_alloc ?_ _)); refine blk_far ?_ NB373_374.out _; (with_reducible repeat (first | refine blk_drewN ?_ _ | refine blk_drew ?_ | refine blk_alloc ?_ _)); exact BK373.out⟩, ⟨by (with_reducible repeat (first | refine blk_drewN ?_ _ | refine blk_drew ?_ | refine blk_alloc ?_ _)); refine blk_put (cs := #[.slice A0_0 l0_0.length c0_0, u375001]) ?_ 1 _ rfl; (with_reducible repeat (first | refine blk_drewN ?_ _ | refine blk_drew ?_ | refine blk_alloc ?_ _)); exact BK374.out⟩, ⟨by repeat (first | (with_reducible first | exact HB.out | apply below_alloc | apply pw_below_drewN | apply below_drew1 | refine below_set ?_ GE371.out | refine below_set ?_ GE372.out | refine below_set ?_ GE373.out | refine below_set ?_ GE374.out) | exact HB.out)⟩⟩
         ·
          rw [if_neg c27] at H
          exact absurd H (by simp)
        ·
         rw [if_neg c26] at H
         exact absurd H (by simp)
       ·
        rw [if_neg c25] at H
        exact absurd H (by simp)
      ·
       replace c24 := Bool.eq_false_iff.mpr c24
       subst c24
       have H1 : (if a1_2 = 0 then (interchangeref13_put.l0 kj14 (wrap64 (x6_1 + 1)) l0_0 l0_1 a1_0 a1_1 a1_2 a1_3 l0_0 x375001_1) else (if x375001_1.length < 4398046511104 then (interchangeref13_put.l0 kj14 (wrap64 (x6_1 + 1)) l0_0 l0_1 a1_0 a1_1 a1_2 a1_3 l0_0 (x375001_1 ++ [(⟨a1_0, a1_1, a1_2, a1_3⟩ : S29)])) else (none))) = some (r1, r2) := by rw [if_neg (show ¬ (false = true) by decide)] at H; exact H
       clear H
       have H := H1
       clear H1
       by_cases c32 : a1_2 = 0
       ·
        rw [if_pos c32] at H
        have c32b0 : (a1_2 == 0) = true := beq_iff_eq.mpr c32
        have c32b1 : (a1_2 != 0) = false := bne_eq_false_iff_eq.mpr c32
        clear c32
        have H' := Aside0.mk H
        clear H
        have hnb33 := NB372_371.out
        have hnc33 := NB371_372.out
        have hnb34 := NB372_373.out
        have hnc34 := NB373_372.out
        have hnb35 := NB372_374.out
        have hnc35 := NB374_372.out
        have hcz36_0 : wc.cell? ⟨gb372, 0, none⟩ = some (.int .i64 a1_0) := (blk_cell BK372.out 0).trans rfl
        have hcz36_1 : wc.cell? ⟨gb372, 1, none⟩ = some (.int .i64 a1_1) := (blk_cell BK372.out 1).trans rfl
        have hcz36_2 : wc.cell? ⟨gb372, 2, none⟩ = some (.int .i64 a1_2) := (blk_cell BK372.out 2).trans rfl
        have hcz36_3 : wc.cell? ⟨gb372, 3, none⟩ = some (.int .i64 a1_3) := (blk_cell BK372.out 3).trans rfl
        have hfz36_0 := blk_frozen BK372.out 0
        have hfz36_1 := blk_frozen BK372.out 1
        have hfz36_2 := blk_frozen BK372.out 2
        have hfz36_3 := blk_frozen BK372.out 3
        go_wp2
        go_roundg kj14
        case measure => have := HK1.out; have := HJ14.out; omega
        case rel => exact ⟨(wrap64 (x6_1 + 1)), (x375001_1), (u375001), (by first | rfl | (simp; done) | (simp [*]; done)), H', ⟨by have := HK1.out; have := HJ14.out; omega⟩, ⟨by (with_reducible repeat (first | apply Kd.V_alloc | apply Kd.V_drewN | apply Kd.V_drew)); exact HO_372000.out⟩, ⟨by (with_reducible repeat (first | apply Kd.V_alloc | apply Kd.V_drewN | apply Kd.V_drew)); exact HO_375000.out⟩, ⟨by (with_reducible repeat (first | apply Kd.R_alloc | apply Kd.R_drewN | apply Kd.R_drew)); exact HO_375001.out⟩, ⟨by (with_reducible repeat (first | refine blk_drewN ?_ _ | refine blk_drew ?_ | refine blk_alloc ?_ _)); exact BK371.out⟩, ⟨by (with_reducible repeat (first | refine blk_drewN ?_ _ | refine blk_drew ?_ | refine blk_alloc ?_ _)); exact BK372.out⟩, ⟨by (with_reducible repeat (first | refine blk_drewN ?_ _ | refine blk_drew ?_ | refine blk_alloc ?_ _)); exact BK373.out⟩, ⟨by (with_reducible repeat (first | refine blk_drewN ?_ _ | refine blk_drew ?_ | refine blk_alloc ?_ _)); exact BK374.out⟩, ⟨by repeat (first | (with_reducible first | exact HB.out | apply below_alloc | apply pw_below_drewN | apply below_drew1 | refine below_set ?_ GE371.out | refine below_set ?_ GE372.out | refine below_set ?_ GE373.out | refine below_set ?_ GE374.out) | exact HB.out)⟩⟩
       ·
        rw [if_neg c32] at H
        have c32b0 : (a1_2 == 0) = false := beq_eq_false_iff_ne.mpr c32
        have c32b1 : (a1_2 != 0) = true := bne_iff_ne.mpr c32
        by_cases c37 : x375001_1.length < 4398046511104
        ·
         rw [if_pos c37] at H
         have LMc37 := Aside0.mk c37
         clear c37
         obtain ⟨y381, hy381⟩ : ∃ y_ : List (S29), y_ = (x375001_1 ++ [(⟨a1_0, a1_1, a1_2, a1_3⟩ : S29)]) := ⟨_, rfl⟩
         replace H : (interchangeref13_put.l0 kj14 (wrap64 (x6_1 + 1)) l0_0 l0_1 a1_0 a1_1 a1_2 a1_3 l0_0 y381) = some (r1, r2) := by first | (rw [hy381]; with_reducible exact H) | (have H2_ := (Option.bind_some _ _).symm.trans H; rw [hy381]; with_reducible exact H2_) | (have H2_ := (Option.bind_some _ _).symm.trans H; with_reducible exact H2_) | with_reducible exact H | (rw [hy381]; exact H) | exact H
         have Ny381 := Aside0.mk hy381
         clear hy381
         have H' := Aside0.mk H
         clear H
         have hnb38 := NB372_371.out
         have hnc38 := NB371_372.out
         have hnb39 := NB372_373.out
         have hnc39 := NB373_372.out
         have hnb40 := NB372_374.out
         have hnc40 := NB374_372.out
         have hcz41_0 : wc.cell? ⟨gb372, 0, none⟩ = some (.int .i64 a1_0) := (blk_cell BK372.out 0).trans rfl
         have hcz41_1 : wc.cell? ⟨gb372, 1, none⟩ = some (.int .i64 a1_1) := (blk_cell BK372.out 1).trans rfl
         have hcz41_2 : wc.cell? ⟨gb372, 2, none⟩ = some (.int .i64 a1_2) := (blk_cell BK372.out 2).trans rfl
         have hcz41_3 : wc.cell? ⟨gb372, 3, none⟩ = some (.int .i64 a1_3) := (blk_cell BK372.out 3).trans rfl
         have hfz41_0 := blk_frozen BK372.out 0
         have hfz41_1 := blk_frozen BK372.out 1
         have hfz41_2 := blk_frozen BK372.out 2
         have hfz41_3 := blk_frozen BK372.out 3
         have hnb42 := NB374_371.out
         have hnc42 := NB371_374.out
         have hnb43 := NB374_373.out
         have hnc43 := NB373_374.out
         have hcz44_0 : wc.cell? ⟨gb374, 0, none⟩ = some (.slice A0_0 l0_0.length c0_0) := (blk_cell BK374.out 0).trans rfl
         have hcz44_1 : wc.cell? ⟨gb374, 1, none⟩ = some (u375001) := (blk_cell BK374.out 1).trans rfl
         have hfz44_0 := blk_frozen BK374.out 0
         have hfz44_1 := blk_frozen BK374.out 1
         go_wp2_with (first | ((with_reducible refine gate_builtin (b := .append) (xs := #[.tmp 51, .tmp 53]) rfl ?_); at_builtin; refine Kd.R_append k29 (w0 := w) w.heap.size rfl (.tmp 51) (.tmp 53) 23 29 (.agg #[(.int .i64 0), (.int .i64 0), (.int .i64 0), (.int .i64 0)]) 32 rfl Try.underlying23 info29 rfl (by decide) (by omega) u375001 x375001_1 (⟨a1_0, a1_1, a1_2, a1_3⟩ : S29) [.int .i64 a1_0, .int .i64 a1_1, .int .i64 a1_2, .int .i64 a1_3] (fun k_ => (w.heap.size ≤ k_) ∧ k_ ≠ gb372) (fun _ => False) rfl rfl ?aP (fun _ hk => hk.elim) ?aF ?aO ?aB ?aS ?aL ?_; (case aP => exact k29_mkM _ _ _ (⟨a1_0, a1_1, a1_2, a1_3⟩ : S29)); (case aB => exact (by repeat (first | (with_reducible first | exact HB.out | apply bA | apply bN | apply bD | refine bS ?_ ‹_›) | exact HB.out))); (case aF => exact (fun k_ hk => ⟨(Nat.le_trans (below_size (by repeat (first | (with_reducible first | exact HB.out | apply bA | apply bN | apply bD | refine bS ?_ ‹_›) | exact HB.out))) hk), Kd.freshB (g := gb372) (o := .cells #[.int .i64 a1_0, .int .i64 a1_1, .int .i64 a1_2, .int .i64 a1_3] 29 (0, 0)) (bk BK372.out) k_ hk⟩)); (case aO => exact (rk HO_375001.out)); (case aS => exact (below_size (by repeat (first | (with_reducible first | exact HB.out | apply bA | apply bN | apply bD | refine bS ?_ ‹_›) | exact HB.out)))); (case aL => have := LMc37.out; omega); intro v382 w45 ho hb hg hat; rw [← Ny381.out] at ho; have HO383 := Aside0.mk (ho); replace HO_372000 := Aside0.mk (Kd.V_afterv (ok := (fun k_ => (P0_0_ k_ ∨ w.heap.size ≤ k_) ∧ k_ ≠ gb371 ∧ k_ ≠ gb372 ∧ k_ ≠ gb373 ∧ k_ ≠ gb374)) (by (with_reducible repeat (first | apply Kd.V_alloc | apply Kd.V_drewN | apply Kd.V_drew)); exact Kd.V_mono HO_372000.out (fun _ hk => ⟨⟨hk.1, ⟨hk.2.2.1, ⟨hk.2.2.2.1, ⟨hk.2.2.2.2.1, hk.2.2.2.2.2⟩⟩⟩⟩, hk.2.1⟩)) hg hat); replace HO_375000 := Aside0.mk (Kd.V_afterv (ok := (fun k_ => (P0_0_ k_ ∨ w.heap.size ≤ k_) ∧ k_ ≠ gb371 ∧ k_ ≠ gb372 ∧ k_ ≠ gb373 ∧ k_ ≠ gb374)) (by (with_reducible repeat (first | apply Kd.V_alloc | apply Kd.V_drewN | apply Kd.V_drew)); exact Kd.V_mono HO_375000.out (fun _ hk => ⟨⟨hk.1, ⟨hk.2.2.1, ⟨hk.2.2.2.1, ⟨hk.2.2.2.2.1, hk.2.2.2.2.2⟩⟩⟩⟩, hk.2.1⟩)) hg hat); replace BK371 := Aside0.mk (blk_grown (bk BK371.out) hg (Kd.R_ne HO_375001.out BK371.out (by decide))); replace BK372 := Aside0.mk (blk_grown (bk BK372.out) hg (Kd.R_away HO_375001.out (fun _ hk => hk.2))); replace BK373 := Aside0.mk (blk_grown (bk BK373.out) hg (Kd.R_ne HO_375001.out BK373.out (by decide))); replace BK374 := Aside0.mk (blk_grown (bk BK374.out) hg (Kd.R_ne HO_375001.out BK374.out (by decide))); replace HB := Aside0.mk (hb); clear HO_375001; clear ho hb hg hat; obtain ⟨Ao46, co46, eo46⟩ := Kd.R_slice HO383.out; subst eo46; have hcz47_0 : w45.cell? ⟨gb374, 0, none⟩ = some (.slice A0_0 l0_0.length c0_0) := (blk_cell BK374.out 0).trans rfl; have hcz47_1 : w45.cell? ⟨gb374, 1, none⟩ = some (u375001) := (blk_cell BK374.out 1).trans rfl; have hfz47_0 := blk_frozen BK374.out 0; have hfz47_1 := blk_frozen BK374.out 1))
         go_roundg kj14
         case measure => have := HK1.out; have := HJ14.out; omega
         case rel => exact ⟨(wrap64 (x6_1 + 1)), (y381), (.slice Ao46 y381.length co46), (by first | rfl | (simp; done) | (simp [*]; done)), H', ⟨by have := HK1.out; have := HJ14.out; omega⟩, ⟨by (with_reducible repeat (first | apply Kd.V_alloc | apply Kd.V_drewN | apply Kd.V_drew)); exact Kd.V_mono (Kd.V_far (p := ⟨gb374, 1, none⟩) (Kd.V_mono HO_372000.out (fun k_ hk => (⟨hk, hk.1.2.2.2.2⟩ : _ ∧ k_ ≠ gb374))) (fun _ hk => hk.2) (.slice Ao46 y381.length co46)) (fun _ hk => ⟨hk.1.1.1, ⟨hk.1.2, ⟨hk.1.1.2.1, ⟨hk.1.1.2.2.1, ⟨hk.1.1.2.2.2.1, hk.1.1.2.2.2.2⟩⟩⟩⟩⟩)⟩, ⟨by (with_reducible repeat (first | apply Kd.V_alloc | apply Kd.V_drewN | apply Kd.V_drew)); exact Kd.V_mono (Kd.V_far (p := ⟨gb374, 1, none⟩) (Kd.V_mono HO_375000.out (fun k_ hk => (⟨hk, hk.1.2.2.2.2⟩ : _ ∧ k_ ≠ gb374))) (fun _ hk => hk.2) (.slice Ao46 y381.length co46)) (fun _ hk => ⟨hk.1.1.1, ⟨hk.1.2, ⟨hk.1.1.2.1, ⟨hk.1.1.2.2.1, ⟨hk.1.1.2.2.2.1, hk.1.1.2.2.2.2⟩⟩⟩⟩⟩)⟩, ⟨by (with_reducible repeat (first | apply Kd.R_alloc | apply Kd.R_drewN | apply Kd.R_drew)); exact Kd.R_mono (Kd.R_far (p := ⟨gb374, 1, none⟩) (Kd.R_types HO383.out BK374.out (by decide)) (fun _ hk => hk.2) (.slice Ao46 y381.length co46)) (fun _ hk => ⟨hk.1.1, hk.1.2⟩)⟩, ⟨by (with_reducible repeat (first | refine blk_drewN ?_ _ | refine blk_drew ?_ | refine blk_alloc ?_ _)); refine blk_far ?_ NB371_374.out _; (with_reducible repeat (first | refine blk_drewN ?_ _ | refine blk_drew ?_ | refine blk_alloc ?_ _)); exact BK371.out⟩, ⟨by (with_reducible repeat (first | refine blk_drewN ?_ _ | refine blk_drew ?_ | refine blk_alloc ?_ _)); refine blk_far ?_ NB372_374.out _; (with_reducible repeat (first | refine blk_drewN ?_ _ | refine blk_drew ?_ | refine blk_alloc ?_ _)); exact BK372.out⟩, ⟨by (with_reducible repeat (first | refine blk_drewN ?_ _ | refine blk_drew ?_ | refine blk_alloc ?_ _)); refine blk_far ?_ NB373_374.out _; (with_reducible repeat (first | refine blk_drewN ?_ _ | refine blk_drew ?_ | refine blk_alloc ?_ _)); exact BK373.out⟩, ⟨by (with_reducible repeat (first | refine blk_drewN ?_ _ | refine blk_drew ?_ | refine blk_alloc ?_ _)); refine blk_put (cs := #[.slice A0_0 l0_0.length c0_0, u375001]) ?_ 1 _ rfl; (with_reducible repeat (first | refine blk_drewN ?_ _ | refine blk_drew ?_ | refine blk_alloc ?_ _)); exact BK374.out⟩, ⟨by repeat (first | (with_reducible first | exact HB.out | apply below_alloc | apply pw_below_drewN | apply below_drew1 | refine below_set ?_ GE371.out | refine below_set ?_ GE372.out | refine below_set ?_ GE373.out | refine below_set ?_ GE374.out) | exact HB.out)⟩⟩
        ·
         rw [if_neg c37] at H
         exact absurd H (by simp)
   ·
    rw [if_neg c14] at H
    have c14b0 : decide (x6_1 < (l0_1.length : Int)) = false := decide_eq_false c14
    clear c14
    simp only [Option.some.injEq, Prod.mk.injEq] at H
    obtain ⟨rfl, rfl⟩ := H
    have hnb48 := NB371_372.out
    have hnc48 := NB372_371.out
    have hnb49 := NB371_373.out
    have hnc49 := NB373_371.out
    have hnb50 := NB371_374.out
    have hnc50 := NB374_371.out
    have hcz51_0 : wr.cell? ⟨gb371, 0, none⟩ = some (.slice A0_0 l0_0.length c0_0) := (blk_cell BK371.out 0).trans rfl
    have hcz51_1 : wr.cell? ⟨gb371, 1, none⟩ = some (.slice A0_1 l0_1.length c0_1) := (blk_cell BK371.out 1).trans rfl
    have hfz51_0 := blk_frozen BK371.out 0
    have hfz51_1 := blk_frozen BK371.out 1
    have hnb52 := NB374_372.out
    have hnc52 := NB372_374.out
    have hnb53 := NB374_373.out
    have hnc53 := NB373_374.out
    have hcz54_0 : wr.cell? ⟨gb374, 0, none⟩ = some (.slice A0_0 l0_0.length c0_0) := (blk_cell BK374.out 0).trans rfl
    have hcz54_1 : wr.cell? ⟨gb374, 1, none⟩ = some (u375001) := (blk_cell BK374.out 1).trans rfl
    have hfz54_0 := blk_frozen BK374.out 0
    have hfz54_1 := blk_frozen BK374.out 1
    have hnb55 := NB373_372.out
    have hnc55 := NB372_373.out
    have hcz56_0 : wr.cell? ⟨gb373, 0, none⟩ = some (.slice none 0 0) := (blk_cell BK373.out 0).trans rfl
    have hcz56_1 : wr.cell? ⟨gb373, 1, none⟩ = some (.slice none 0 0) := (blk_cell BK373.out 1).trans rfl
    have hfz56_0 := blk_frozen BK373.out 0
    have hfz56_1 := blk_frozen BK373.out 1
    obtain ⟨Ao57, co57, eo57⟩ := Kd.R_slice HO_375001.out
    subst eo57
    go_wp2
    refine bodyPost_ret (results_cell_row rfl _ _ gb373 25 #[.slice A0_0 l0_0.length c0_0, .slice Ao57 x375001_1.length co57] (0, 0) _ rfl (by (with_reducible repeat (first | refine blk_drewN ?_ _ | refine blk_drew ?_ | refine blk_alloc ?_ _)); refine blk_put (cs := #[.slice A0_0 l0_0.length c0_0, .slice none 0 0]) ?_ 1 _ rfl; (with_reducible repeat (first | refine blk_drewN ?_ _ | refine blk_drew ?_ | refine blk_alloc ?_ _)); refine blk_put (cs := #[.slice none 0 0, .slice none 0 0]) ?_ 0 _ rfl; (with_reducible repeat (first | refine blk_drewN ?_ _ | refine blk_drew ?_ | refine blk_alloc ?_ _)); exact BK373.out) Try.underlying25 rfl (by kernel_rfl)) rfl ?_
    exact ⟨_, _, by first | rfl | (simp [errW_none, errW_some] <;> rfl) | (simp [*, errW_none, errW_some] <;> rfl), by (with_reducible repeat (first | apply Kd.V_alloc | apply Kd.V_drewN | apply Kd.V_drew)); exact Kd.V_mono (Kd.V_far (p := ⟨gb373, 1, none⟩) (Kd.V_far (p := ⟨gb373, 0, none⟩) (Kd.V_mono HO_375000.out (fun k_ hk => (⟨hk, hk.2.2.2.2.1⟩ : _ ∧ k_ ≠ gb373))) (fun _ hk => hk.2) (.slice A0_0 l0_0.length c0_0)) (fun _ hk => hk.2) (.slice Ao57 x375001_1.length co57)) (fun _ hk => ⟨hk.1.1, hk.1.2.1⟩), by (with_reducible repeat (first | apply Kd.R_alloc | apply Kd.R_drewN | apply Kd.R_drew)); exact Kd.R_mono (Kd.R_far (p := ⟨gb373, 1, none⟩) (Kd.R_far (p := ⟨gb373, 0, none⟩) (Kd.R_types HO_375001.out BK373.out (by decide)) (fun _ hk => hk.2) (.slice A0_0 l0_0.length c0_0)) (fun _ hk => hk.2) (.slice Ao57 x375001_1.length co57)) (fun _ hk => hk.1.1), by repeat (first | (with_reducible first | exact HB.out | apply below_alloc | apply pw_below_drewN | apply below_drew1 | refine below_set ?_ GE371.out | refine below_set ?_ GE372.out | refine below_set ?_ GE373.out | refine below_set ?_ GE374.out) | exact HB.out)⟩

end Go.Proofs.Ytgiofigjnchfeaa.Q
