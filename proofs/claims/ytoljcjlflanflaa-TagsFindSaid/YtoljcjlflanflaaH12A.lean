/- tags.Settle, where it goes through. -/
import Derived.Test.YtoljcjlflanflaaL12
namespace Go.Proofs.Ytoljcjlflanflaa.Q
open Go.RowKit Go.Proofs.YtoljcjlflanflaaW.PrintWords Go.Proofs.YtoljcjlflanflaaW.PrintLast Go.Proofs.YtoljcjlflanflaaW.PrintMore
open Go.Shelf
set_option linter.unusedVariables false
set_option linter.unusedSimpArgs false
attribute [local go_sem] Oper.semAt_some

set_option maxHeartbeats 16000000 in
set_option maxRecDepth 100000 in
theorem tags_Settle.g_one (a0_0 a0_1 : Int) (P0_2_ : Nat → Prop) (A0_2 : Option Addr) (c0_2 : Nat) (l0_2 : List S47) (a1 : Int) (zs rest : List S47) (hzs : (l0_2.take (bsI l0_2 a1 + 1)).drop (bsI l0_2 a1) = zs) (hrest : l0_2.take (bsI l0_2 a1) ++ l0_2.drop (bsI l0_2 a1 + 1) = rest) (hreach : l0_2.length ≤ 8796093022000) (w : World) (hs0_2 : Kd.V k47 47 w w.heap.size (fun k_ => P0_2_ k_) (.slice A0_2 l0_2.length c0_2) l0_2) (his : placeIs l0_2 a1 = true) :
    CallsIn Fence.wide 5 Try.prog 12 #[.agg #[.int .u64 a0_0, .int .u64 a0_1, .slice A0_2 l0_2.length c0_2], .int .u64 a1, .bool false] w fun e w' => ∃ v2_ v3_ : Value, e = .returned (.tuple #[.agg #[.int .u64 a0_0, .int .u64 a0_1, v2_], v3_, .int .i64 0]) ∧ Kd.V k47 47 w' w.heap.size (fun k_ => ((P0_2_ k_ ∨ w.heap.size ≤ k_) ∧ some k_ ≠ v3_.ownBlock)) v2_ rest ∧ Kd.R (Kd.int .u64) 22 w' w.heap.size (fun _ => True) v3_ (zs.map (·.f1)) ∧ Below w.heap.size w w' := by
  have hu25 := Try.underlying25
  have hu47 := Try.underlying47
  have HV := Kd.V_at hs0_2
  have HF := Aside0.mk (Kd.F_bound HV.2.2)
  have HC := Aside0.mk (Kd.F_now HV.2.2)
  have hcl : l0_2.length ≤ c0_2 := HV.2.1
  have hm : l0_2.length ≤ 9223372036854775807 := Kd.F_max HV.2.2
  have HS := Aside0.mk hs0_2
  have HP := Aside0.mk (tags_place.calls a0_0 a0_1 A0_2 c0_2 l0_2 a1)
  clear hs0_2 HV
  have hlt := placeIs_lt' his
  rw [his] at HP
  obtain ⟨i, hi⟩ : ∃ i, bsI l0_2 a1 = i := ⟨_, rfl⟩
  rw [hi] at HP hlt hzs hrest
  have HRT := Aside0.mk hrest
  clear hrest
  have h15 : 1 ≤ 5 := by omega
  obtain ⟨i0, hi0, hz0, hz1, hz2⟩ := info_parts info22
  have hI0 := Aside0.mk hi0
  clear hi0
  have eg : ∀ args w, (callFunc 24 args).run Try.prog w = .ok (.enter 24 args) w := enters_at Try.func24 (by kernel_rfl) rfl
  have EG := Aside0.mk eg
  clear eg
  have HB0 : Aside0 (Below w.heap.size w ((w.alloc (.cells #[.int .u64 a0_0, .int .u64 a0_1, .slice A0_2 l0_2.length c0_2] 25)).alloc (.cells #[.int .u64 0, .int .u64 0, .slice none 0 0] 25))) := ⟨below_alloc (below_alloc (Below.refl _ _) _) _⟩
  have b0 : ((w.alloc (.cells #[.int .u64 a0_0, .int .u64 a0_1, .slice A0_2 l0_2.length c0_2] 25)).alloc (.cells #[.int .u64 0, .int .u64 0, .slice none 0 0] 25)).heap[w.heap.size]? = some (.cells #[.int .u64 a0_0, .int .u64 a0_1, .slice A0_2 l0_2.length c0_2] 25 (0, 0)) := blk_alloc (blk_new w _) _
  have b1 : ((w.alloc (.cells #[.int .u64 a0_0, .int .u64 a0_1, .slice A0_2 l0_2.length c0_2] 25)).alloc (.cells #[.int .u64 0, .int .u64 0, .slice none 0 0] 25)).heap[w.heap.size + 1]? = some (.cells #[.int .u64 0, .int .u64 0, .slice none 0 0] 25 (0, 0)) := by
    have h := blk_new (w.alloc (.cells #[.int .u64 a0_0, .int .u64 a0_1, .slice A0_2 l0_2.length c0_2] 25)) (.cells #[.int .u64 0, .int .u64 0, .slice none 0 0] 25)
    rwa [World.size_alloc] at h
  have hsz0 : ((w.alloc (.cells #[.int .u64 a0_0, .int .u64 a0_1, .slice A0_2 l0_2.length c0_2] 25)).alloc (.cells #[.int .u64 0, .int .u64 0, .slice none 0 0] 25)).heap.size = w.heap.size + 2 := by simp
  have B0 := Aside0.mk b0
  have B1 := Aside0.mk b1
  clear b0 b1
  have hw1 : wrap64 ((i : Int) + 1) = ((i + 1 : Nat) : Int) := by unfold wrap64; omega
  have hn0 : (0 : Int) ≤ ((i : Nat) : Int) := by omega
  have hn1 : ((i : Nat) : Int) ≤ ((i + 1 : Nat) : Int) := by omega
  have hn2 : ((i + 1 : Nat) : Int) ≤ (c0_2 : Int) := by omega
  refine callsIn_of_wp_marks Try.func12 rfl trivial ?_ rfl
  simp only [Try.ntmps12, List.size_toArray, List.length_cons, List.length_nil, Nat.reduceAdd, Nat.reduceSub, Array.replicate_succ, Array.replicate_zero, List.push_toArray, List.append_toArray, List.nil_append, List.cons_append]
  gi_wp2_with (first | (refine ⟨trivial, ?_⟩; gi_at_call 18; refine (callsIn_wide.2 (HP.out _ (Kd.C_below HC.out HB0.out))).mono ?_; rintro e w5 ⟨rfl, hb2⟩; have bS := blk_below B0.out hb2; have bR := blk_below B1.out hb2; have hcs0 : w5.cell? ⟨w.heap.size, 0, none⟩ = some (.int .u64 a0_0) := (blk_cell bS 0).trans rfl; have hfs0 := blk_frozen bS 0; have hcs1 : w5.cell? ⟨w.heap.size, 1, none⟩ = some (.int .u64 a0_1) := (blk_cell bS 1).trans rfl; have hfs1 := blk_frozen bS 1; have hcs2 : w5.cell? ⟨w.heap.size, 2, none⟩ = some (.slice A0_2 l0_2.length c0_2) := (blk_cell bS 2).trans rfl; have hfs2 := blk_frozen bS 2; have hcr0 : w5.cell? ⟨w.heap.size + 1, 0, none⟩ = some (.int .u64 0) := (blk_cell bR 0).trans rfl; have hfr0 := blk_frozen bR 0; have hcr1 : w5.cell? ⟨w.heap.size + 1, 1, none⟩ = some (.int .u64 0) := (blk_cell bR 1).trans rfl; have hfr1 := blk_frozen bR 1; have hcr2 : w5.cell? ⟨w.heap.size + 1, 2, none⟩ = some (.slice none 0 0) := (blk_cell bR 2).trans rfl; have hfr2 := blk_frozen bR 2; have BS := Aside0.mk bS; have BR := Aside0.mk bR; have HB5 := Aside0.mk (HB0.out.trans (hb2.mono HB0.out.size)); have hsz5 := hb2.size; have hcO2 : (w5.alloc (.cells #[.slice none 0 0] 33)).cell? ⟨w.heap.size, 2, none⟩ = some (.slice A0_2 l0_2.length c0_2) := (blk_cell (blk_alloc bS _) 2).trans rfl; have hfO2 := blk_frozen (blk_alloc bS (.cells #[.slice none 0 0] 33)) 2; clear hb2 bS bR) | (refine ⟨trivial, ?_⟩; gi_at_call 19; refine (callsIn_wide.2 (tags_ups.calls _ _ _ _)).mono ?_; rintro e w' ⟨rfl, rfl⟩))
  clear hcs0 hcs1 hcs2 hcr0 hcr1 hcr2 hfs0 hfs1 hfs2 hfr0 hfr1 hfr2 hcO2 hfO2
  have hzl : zs.length = 1 := by rw [← hzs, List.length_drop, List.length_take]; omega
  have hzm : zs.length ≤ 8796093022000 := by omega
  obtain ⟨A1, hA1⟩ : ∃ A1, (Option.map (fun x => x.add (i * 2)) A0_2) = A1 := ⟨_, rfl⟩
  obtain ⟨C1, hC1⟩ : ∃ C1, (c0_2 - i) = C1 := ⟨_, rfl⟩
  have HZ : Aside0 (∀ W, Kd.C k47 W A0_2 l0_2.length l0_2 → Kd.C k47 W A1 zs.length zs) := ⟨fun W h => by
    subst hzs hA1
    have h2 := Kd.C_drop (c := c0_2) (Kd.C_take h (by omega : i + 1 ≤ l0_2.length)) (m := i) (by rw [List.length_take]; omega) (by rw [List.length_take]; omega); rw [if_neg (by omega)] at h2; exact h2⟩
  obtain ⟨W0, hW0, hsz0', b0, b1, bO, bB, hB0⟩ : ∃ W, W = ((w5.alloc (.cells #[.slice none 0 0] 33)).alloc (.cells #[.slice (Option.map (fun x => x.add (i * 2)) A0_2) 1 (c0_2 - i)] 23)) ∧ W.heap.size = w5.heap.size + 2 ∧ W.heap[w.heap.size]? = some (.cells #[.int .u64 a0_0, .int .u64 a0_1, .slice A0_2 l0_2.length c0_2] 25) ∧ W.heap[w.heap.size + 1]? = some (.cells #[.int .u64 0, .int .u64 0, .slice none 0 0] 25) ∧ W.heap[w5.heap.size]? = some (.cells #[.slice none 0 0] 33) ∧ W.heap[w5.heap.size + 1]? = some (.cells #[.slice A1 zs.length C1] 23) ∧ Below w.heap.size w W := by
    refine ⟨_, rfl, by simp, blk_alloc (blk_alloc BS.out _) _, blk_alloc (blk_alloc BR.out _) _, blk_alloc (blk_new _ _) _, ?_, ?_⟩
    · have h := blk_new (w5.alloc (.cells #[.slice none 0 0] 33)) (.cells #[.slice A1 zs.length C1] 23)
      rw [World.size_alloc] at h
      rw [hzl] at h
      rw [hzl]
      rw [← hA1, ← hC1] at h ⊢
      exact h
    · exact below_alloc (below_alloc HB5.out _) _
  rw [← hW0]
  clear hW0 hA1 hC1
  have B0 := Aside0.mk b0
  have B1 := Aside0.mk b1
  have BO := Aside0.mk bO
  have BB := Aside0.mk bB
  have HB0' := Aside0.mk hB0
  clear b0 b1 bO bB hB0 BS BR
  refine wpIn_rangeFunc_ownG rfl h15 (gf := 24) (lb := #[.pointer (some ⟨w5.heap.size + 1, 0, none⟩)]) rfl trivial (enters_at Try.func24 (by kernel_rfl) rfl)
    (ups1_stops 4 (by omega) W0.heap.size w5.heap.size (w5.heap.size + 1) A1 C1 zs (by omega) W0 (Nat.le_refl _)
      (fun W' hk => (blk_cell (hk.blk BB.out (by omega) (by omega)) 0).trans rfl)
      (fun W' hk => HZ.out _ (Kd.F_now (Kd.F_step HF.out (fun k hok hlt => (hk.2 k (by omega) (by omega)).trans (HB0'.out.block k hlt))))))
    (fun h k => h.trans k) (fun W l o o' hl h hc hw => KpB.put W l o o' hl h hc hw) (Below.refl _ _) (fun _ => rfl)
    (fun pre W => (∃ v, Boxed W w5.heap.size 33 v ∧ W.ownsRow W0.heap.size 22 1 v pre.length (pre.map (Value.int .u64)) ∧ True) ∧ KpB W0.heap.size w5.heap.size W0 W)
    (fun _ _ _ => False)
    (OwnFrom.and (Own.from (holdsRow_own W0.heap.size w5.heap.size 33 22 1 (fun pre : List Int => pre.length) (fun pre => pre.map (Value.int .u64)) (fun _ _ => True)) _) (ownFrom_kpB (Nat.le_refl _) (by omega)))
    (fun _ _ _ _ _ hs _ _ => hs)
    ⟨⟨_, BO.out, World.ownsRow_nil _ _ _ _, trivial⟩, KpB.refl _ _ _⟩
    ?a1 ?assign ?body ?done ?stop
  case assign =>
    intro l x W K hK
    gi_wp2
    exact hK
  case body =>
    rintro l pre x W ⟨⟨v, hv, hrow, -⟩, hK⟩ hlt
    have hc := hv.cell
    have hi := hI0.out
    gi_wp2_with (gi_at_builtin; refine wpListIn_append_own _ rfl _ _ 33 rfl W0.heap.size 22 i0 (.int .u64 0) 1 8 Try.underlying33 hi hz0 hz1 hz2 rfl (by decide) _ _ _ rfl (hrow.alloc _) ⟨W.heap.size, 0, none⟩ 1 1 [.int .u64 x] rfl rfl (cell_one_new _ _ _) (by simp [Value.oneCell']) (by simp only [maxLen]; omega) (by omega) (by have := hK.1; simp; omega) ?_; intro v' w1 hown' hgrow _; obtain ⟨g', cap', rfl⟩ := ownsRow_succ hown'; obtain ⟨hv1, hv2, hr2, hk2, hb2⟩ := boxed_appendedK hv (by decide) hrow hK.1 hown' hgrow; have hc1 := hv1.cell; have hf1 := hv1.frozen)
    exact ⟨hk2.from _, hb2, ⟨⟨_, hv2, by simpa using hr2, trivial⟩, hK.trans hb2⟩⟩
  case stop =>
    rintro D c pre W _ _ h _
    exact h.elim
  case done =>
    rintro D ys W hD rfl ⟨⟨v1, hv1, hrow1, -⟩, hK1⟩ hD1
    have d0 := hK1.blk B0.out (by omega) (by omega)
    have d1 := hK1.blk B1.out (by omega) (by omega)
    have hcs0 : W.cell? ⟨w.heap.size, 0, none⟩ = some (.int .u64 a0_0) := (blk_cell d0 0).trans rfl; have hfs0 := blk_frozen d0 0; have hcs1 : W.cell? ⟨w.heap.size, 1, none⟩ = some (.int .u64 a0_1) := (blk_cell d0 1).trans rfl; have hfs1 := blk_frozen d0 1; have hcs2 : W.cell? ⟨w.heap.size, 2, none⟩ = some (.slice A0_2 l0_2.length c0_2) := (blk_cell d0 2).trans rfl; have hfs2 := blk_frozen d0 2
    have HV1 := Aside0.mk hv1
    have HROW1 := Aside0.mk hrow1
    have HK1 := Aside0.mk hK1
    have HD1 := Aside0.mk hD1
    have hszW : w5.heap.size + 2 ≤ W.heap.size := by have := hK1.1; omega
    have hDl : D < W.heap.size := (Array.getElem?_eq_some_iff.1 hD1).1
    have D0 := Aside0.mk d0
    have D1 := Aside0.mk d1
    clear hv1 hrow1 hK1 hD1 d0 d1
    obtain ⟨A1', n1', c1', rfl⟩ := own_slice HROW1.out
    have hlf : (l0_2.take i).length = i := by rw [List.length_take]; omega
    have hlr : (l0_2.drop (i + 1)).length = l0_2.length - (i + 1) := by rw [List.length_drop] <;> omega
    have hnn : ((l0_2.take i).length + (l0_2.drop (i + 1)).length) * 16 ≤ 140737488355328 := by rw [hlf, hlr]; omega
    have CW : Aside0 (∀ k, k < w.heap.size → W.heap[k]? = w.heap[k]?) := ⟨fun k hk => (HK1.out.2 k (by omega) (by omega)).trans (HB0'.out.block k hk)⟩
    have HCW : Aside0 (Kd.C k47 W A0_2 l0_2.length l0_2) := ⟨Kd.F_now (Kd.F_step HF.out (fun k hok hlt => CW.out k hlt))⟩
    by_cases hce : c0_2 = (i + 1)
    · have hce1 : c0_2 - (i + 1) = 0 := by omega
      have HCD : Aside0 (∀ X, Kd.C k47 X A0_2 l0_2.length l0_2 → Kd.C k47 X A0_2 (l0_2.drop (i + 1)).length (l0_2.drop (i + 1))) := ⟨fun X h => by
        have h := Kd.C_drop (c := c0_2) (m := (i + 1)) h (by omega) hcl
        rw [if_pos hce] at h
        exact h⟩
      have hce0 : i ≤ c0_2 := by omega
      gi_wp2
      refine wpIn_calm ?_
      gi_region_with (refine ⟨trivial, ?_⟩; gi_at_call 20; refine (callsIn_wide.2 (slices_Concat.calls A0_2 A0_2 _ _ (l0_2.take i) (l0_2.drop (i + 1)) W.heap.size _ hnn (by refine (blk_cell (blk_drew (blk_new W _)) 0).trans ?_; rw [hlf]; rfl) (by refine (blk_cell (blk_drew (blk_new W _)) 1).trans ?_; rw [hlr]; rfl) (by simp) (Kd.C_take (Kd.C_below HCW.out (below_drew1 (below_alloc (Below.refl _ _) _))) (by omega)) (HCD.out _ (Kd.C_below HCW.out (below_drew1 (below_alloc (Below.refl _ _) _)))))).mono ?_; rintro e w6 ⟨v6, rfl, hR6, hB6⟩; obtain ⟨A6, c6, rfl⟩ := Kd.R_slice hR6; obtain ⟨n6, hn6⟩ : ∃ n, (l0_2.take i ++ l0_2.drop (i + 1)).length = n := ⟨_, rfl⟩; rw [hn6] at hR6 ⊢; clear hn6; rw [HRT.out] at hR6; have bS6 := blk_below (blk_drew (blk_alloc D0.out _)) hB6; have bR6 := blk_below (blk_drew (blk_alloc D1.out _)) hB6; have bO6 := blk_below (blk_drew (blk_alloc HV1.out _)) hB6; have hcs60 : w6.cell? ⟨w.heap.size, 0, none⟩ = some (.int .u64 a0_0) := (blk_cell bS6 0).trans rfl; have hfs60 := blk_frozen bS6 0; have hcs61 : w6.cell? ⟨w.heap.size, 1, none⟩ = some (.int .u64 a0_1) := (blk_cell bS6 1).trans rfl; have hfs61 := blk_frozen bS6 1; have hcs62 : w6.cell? ⟨w.heap.size, 2, none⟩ = some (.slice A0_2 l0_2.length c0_2) := (blk_cell bS6 2).trans rfl; have hfs62 := blk_frozen bS6 2; have hcr60 : w6.cell? ⟨w.heap.size + 1, 0, none⟩ = some (.int .u64 0) := (blk_cell bR6 0).trans rfl; have hfr60 := blk_frozen bR6 0; have hcr61 : w6.cell? ⟨w.heap.size + 1, 1, none⟩ = some (.int .u64 0) := (blk_cell bR6 1).trans rfl; have hfr61 := blk_frozen bR6 1; have hcr62 : w6.cell? ⟨w.heap.size + 1, 2, none⟩ = some (.slice none 0 0) := (blk_cell bR6 2).trans rfl; have hfr62 := blk_frozen bR6 2; have hco6 : w6.cell? ⟨w5.heap.size, 0, none⟩ = some (.slice A1' n1' c1') := (blk_cell bO6 0).trans rfl; have BS6 := Aside0.mk bS6; have BR6 := Aside0.mk bR6; have BO6 := Aside0.mk bO6; have HR6 := Aside0.mk hR6; have HB6 := Aside0.mk hB6; have hsz6 := hB6.size; clear bS6 bR6 bO6 hR6 hB6)
      all_goals (refine NoPanic.normal ?_)
      all_goals gi_wp2
      all_goals (refine wpIn_calm ?_)
      all_goals gi_region
      all_goals (refine NoPanic.normal ?_)
      all_goals gi_wp2
      all_goals
        have hW6 : ∀ k, k < W.heap.size → w6.heap[k]? = W.heap[k]? := fun k hk => (HB6.out.block k (by simp; omega)).trans (Below.heap_alloc _ _ k hk)
        have hsz7 : W.heap.size ≤ w6.heap.size := by have := hsz6; simp at this; omega
        obtain ⟨Xf, hXf⟩ : ∃ Y, Y = ((((w6.setCell ⟨w.heap.size, 2, none⟩ (.slice A6 n6 c6)).setCell ⟨w.heap.size + 1, 0, none⟩ (.int .u64 a0_0)).setCell ⟨w.heap.size + 1, 1, none⟩ (.int .u64 a0_1)).setCell ⟨w.heap.size + 1, 2, none⟩ (.slice A6 n6 c6)).drew := ⟨_, rfl⟩
        rw [← hXf]
        have hfar : ∀ k, k ≠ w.heap.size → k ≠ w.heap.size + 1 → Xf.heap[k]? = w6.heap[k]? := fun k h1 h2 => by
          rw [hXf]
          exact (Below.heap_setCell _ _ _ k h2).trans ((Below.heap_setCell _ _ _ k h2).trans ((Below.heap_setCell _ _ _ k h2).trans (Below.heap_setCell _ _ _ k h1)))
        have hXR : Xf.heap[w.heap.size + 1]? = some (.cells #[.int .u64 a0_0, .int .u64 a0_1, .slice A6 n6 c6] 25 (0, 0)) := by
          rw [hXf]
          exact (by (with_reducible repeat (first | refine blk_drewN ?_ _ | refine blk_drew ?_)); refine blk_put (cs := #[.int .u64 a0_0, .int .u64 a0_1, .slice none 0 0]) ?_ 2 _ rfl; (with_reducible repeat (first | refine blk_drewN ?_ _ | refine blk_drew ?_)); refine blk_put (cs := #[.int .u64 a0_0, .int .u64 0, .slice none 0 0]) ?_ 1 _ rfl; (with_reducible repeat (first | refine blk_drewN ?_ _ | refine blk_drew ?_)); refine blk_put (cs := #[.int .u64 0, .int .u64 0, .slice none 0 0]) ?_ 0 _ rfl; (with_reducible repeat (first | refine blk_drewN ?_ _ | refine blk_drew ?_)); (refine blk_far ?_ (by first | omega | (simp; done) | (simp; omega)) _); exact BR6.out)
        have hXS : Xf.heap.size = w6.heap.size := by rw [hXf]; simp
        have hBf : Below w.heap.size w Xf := by
          have hb1 := below_kpB HB0'.out HK1.out (by omega) (by omega)
          rw [hXf]
          repeat (first | apply below_drew1 | (refine below_set ?_ (by first | omega | (simp; done) | (simp; omega))))
          exact (below_drew1 (below_alloc hb1 _)).trans (HB6.out.mono (by simp; omega))
        have e1 : Xf.heap[D]? = some (.deferred (some [])) := (hfar D (by omega) (by omega)).trans ((hW6 D hDl).trans HD1.out)
        have e3 : (Xf.putObj D (.deferred none)).heap[w.heap.size + 1]? = some (.cells #[.int .u64 a0_0, .int .u64 a0_1, .slice A6 n6 c6] 25 (0, 0)) := (World.putObj_heap_other (by omega)).trans hXR
        refine ⟨by simp, .inl ⟨_, _, rfl, run_takeDeferred e1, ?_⟩⟩
        refine ⟨_, results_ctt rfl _ _ (w.heap.size + 1) 25 #[.int .u64 a0_0, .int .u64 a0_1, .slice A6 n6 c6] (0, 0) _ rfl e3 Try.underlying25 rfl (by kernel_rfl), ?_⟩
        refine fin_granted HROW1.out HR6.out (fun k h1 h2 h3 => ?_) (fun k h1 h2 => ?_) (by omega) (by simp) (by omega) (below_put hBf _ _ (by omega))
        · have hkD : k ≠ D := by
            rintro rfl
            obtain ⟨cc, h3⟩ := h3
            rw [HD1.out] at h3
            cases h3
          exact (World.putObj_heap_other hkD).trans ((hfar k (by omega) (by omega)).trans (hW6 k h2))
        · have h1' : W.heap.size ≤ k := by simp at h1; omega
          exact (World.putObj_heap_other (by omega)).trans (hfar k (by omega) (by omega))
    · have hce1 : ¬ c0_2 - (i + 1) = 0 := by omega
      have HCD : Aside0 (∀ X, Kd.C k47 X A0_2 l0_2.length l0_2 → Kd.C k47 X (Option.map (fun x => x.add ((i + 1) * 2)) A0_2) (l0_2.drop (i + 1)).length (l0_2.drop (i + 1))) := ⟨fun X h => by
        have h := Kd.C_drop (c := c0_2) (m := (i + 1)) h (by omega) hcl
        rw [if_neg hce] at h
        exact h⟩
      have hce0 : i ≤ c0_2 := by omega
      gi_wp2
      refine wpIn_calm ?_
      gi_region_with (refine ⟨trivial, ?_⟩; gi_at_call 20; refine (callsIn_wide.2 (slices_Concat.calls A0_2 (Option.map (fun x => x.add ((i + 1) * 2)) A0_2) _ _ (l0_2.take i) (l0_2.drop (i + 1)) W.heap.size _ hnn (by refine (blk_cell (blk_drew (blk_new W _)) 0).trans ?_; rw [hlf]; rfl) (by refine (blk_cell (blk_drew (blk_new W _)) 1).trans ?_; rw [hlr]; rfl) (by simp) (Kd.C_take (Kd.C_below HCW.out (below_drew1 (below_alloc (Below.refl _ _) _))) (by omega)) (HCD.out _ (Kd.C_below HCW.out (below_drew1 (below_alloc (Below.refl _ _) _)))))).mono ?_; rintro e w6 ⟨v6, rfl, hR6, hB6⟩; obtain ⟨A6, c6, rfl⟩ := Kd.R_slice hR6; obtain ⟨n6, hn6⟩ : ∃ n, (l0_2.take i ++ l0_2.drop (i + 1)).length = n := ⟨_, rfl⟩; rw [hn6] at hR6 ⊢; clear hn6; rw [HRT.out] at hR6; have bS6 := blk_below (blk_drew (blk_alloc D0.out _)) hB6; have bR6 := blk_below (blk_drew (blk_alloc D1.out _)) hB6; have bO6 := blk_below (blk_drew (blk_alloc HV1.out _)) hB6; have hcs60 : w6.cell? ⟨w.heap.size, 0, none⟩ = some (.int .u64 a0_0) := (blk_cell bS6 0).trans rfl; have hfs60 := blk_frozen bS6 0; have hcs61 : w6.cell? ⟨w.heap.size, 1, none⟩ = some (.int .u64 a0_1) := (blk_cell bS6 1).trans rfl; have hfs61 := blk_frozen bS6 1; have hcs62 : w6.cell? ⟨w.heap.size, 2, none⟩ = some (.slice A0_2 l0_2.length c0_2) := (blk_cell bS6 2).trans rfl; have hfs62 := blk_frozen bS6 2; have hcr60 : w6.cell? ⟨w.heap.size + 1, 0, none⟩ = some (.int .u64 0) := (blk_cell bR6 0).trans rfl; have hfr60 := blk_frozen bR6 0; have hcr61 : w6.cell? ⟨w.heap.size + 1, 1, none⟩ = some (.int .u64 0) := (blk_cell bR6 1).trans rfl; have hfr61 := blk_frozen bR6 1; have hcr62 : w6.cell? ⟨w.heap.size + 1, 2, none⟩ = some (.slice none 0 0) := (blk_cell bR6 2).trans rfl; have hfr62 := blk_frozen bR6 2; have hco6 : w6.cell? ⟨w5.heap.size, 0, none⟩ = some (.slice A1' n1' c1') := (blk_cell bO6 0).trans rfl; have BS6 := Aside0.mk bS6; have BR6 := Aside0.mk bR6; have BO6 := Aside0.mk bO6; have HR6 := Aside0.mk hR6; have HB6 := Aside0.mk hB6; have hsz6 := hB6.size; clear bS6 bR6 bO6 hR6 hB6)
      all_goals (refine NoPanic.normal ?_)
      all_goals gi_wp2
      all_goals (refine wpIn_calm ?_)
      all_goals gi_region
      all_goals (refine NoPanic.normal ?_)
      all_goals gi_wp2
      all_goals
        have hW6 : ∀ k, k < W.heap.size → w6.heap[k]? = W.heap[k]? := fun k hk => (HB6.out.block k (by simp; omega)).trans (Below.heap_alloc _ _ k hk)
        have hsz7 : W.heap.size ≤ w6.heap.size := by have := hsz6; simp at this; omega
        obtain ⟨Xf, hXf⟩ : ∃ Y, Y = ((((w6.setCell ⟨w.heap.size, 2, none⟩ (.slice A6 n6 c6)).setCell ⟨w.heap.size + 1, 0, none⟩ (.int .u64 a0_0)).setCell ⟨w.heap.size + 1, 1, none⟩ (.int .u64 a0_1)).setCell ⟨w.heap.size + 1, 2, none⟩ (.slice A6 n6 c6)).drew := ⟨_, rfl⟩
        rw [← hXf]
        have hfar : ∀ k, k ≠ w.heap.size → k ≠ w.heap.size + 1 → Xf.heap[k]? = w6.heap[k]? := fun k h1 h2 => by
          rw [hXf]
          exact (Below.heap_setCell _ _ _ k h2).trans ((Below.heap_setCell _ _ _ k h2).trans ((Below.heap_setCell _ _ _ k h2).trans (Below.heap_setCell _ _ _ k h1)))
        have hXR : Xf.heap[w.heap.size + 1]? = some (.cells #[.int .u64 a0_0, .int .u64 a0_1, .slice A6 n6 c6] 25 (0, 0)) := by
          rw [hXf]
          exact (by (with_reducible repeat (first | refine blk_drewN ?_ _ | refine blk_drew ?_)); refine blk_put (cs := #[.int .u64 a0_0, .int .u64 a0_1, .slice none 0 0]) ?_ 2 _ rfl; (with_reducible repeat (first | refine blk_drewN ?_ _ | refine blk_drew ?_)); refine blk_put (cs := #[.int .u64 a0_0, .int .u64 0, .slice none 0 0]) ?_ 1 _ rfl; (with_reducible repeat (first | refine blk_drewN ?_ _ | refine blk_drew ?_)); refine blk_put (cs := #[.int .u64 0, .int .u64 0, .slice none 0 0]) ?_ 0 _ rfl; (with_reducible repeat (first | refine blk_drewN ?_ _ | refine blk_drew ?_)); (refine blk_far ?_ (by first | omega | (simp; done) | (simp; omega)) _); exact BR6.out)
        have hXS : Xf.heap.size = w6.heap.size := by rw [hXf]; simp
        have hBf : Below w.heap.size w Xf := by
          have hb1 := below_kpB HB0'.out HK1.out (by omega) (by omega)
          rw [hXf]
          repeat (first | apply below_drew1 | (refine below_set ?_ (by first | omega | (simp; done) | (simp; omega))))
          exact (below_drew1 (below_alloc hb1 _)).trans (HB6.out.mono (by simp; omega))
        have e1 : Xf.heap[D]? = some (.deferred (some [])) := (hfar D (by omega) (by omega)).trans ((hW6 D hDl).trans HD1.out)
        have e3 : (Xf.putObj D (.deferred none)).heap[w.heap.size + 1]? = some (.cells #[.int .u64 a0_0, .int .u64 a0_1, .slice A6 n6 c6] 25 (0, 0)) := (World.putObj_heap_other (by omega)).trans hXR
        refine ⟨by simp, .inl ⟨_, _, rfl, run_takeDeferred e1, ?_⟩⟩
        refine ⟨_, results_ctt rfl _ _ (w.heap.size + 1) 25 #[.int .u64 a0_0, .int .u64 a0_1, .slice A6 n6 c6] (0, 0) _ rfl e3 Try.underlying25 rfl (by kernel_rfl), ?_⟩
        refine fin_granted HROW1.out HR6.out (fun k h1 h2 h3 => ?_) (fun k h1 h2 => ?_) (by omega) (by simp) (by omega) (below_put hBf _ _ (by omega))
        · have hkD : k ≠ D := by
            rintro rfl
            obtain ⟨cc, h3⟩ := h3
            rw [HD1.out] at h3
            cases h3
          exact (World.putObj_heap_other hkD).trans ((hfar k (by omega) (by omega)).trans (hW6 k h2))
        · have h1' : W.heap.size ≤ k := by simp at h1; omega
          exact (World.putObj_heap_other (by omega)).trans (hfar k (by omega) (by omega))
end Go.Proofs.Ytoljcjlflanflaa.Q
