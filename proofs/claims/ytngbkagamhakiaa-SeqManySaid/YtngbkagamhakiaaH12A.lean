/- seq.Confirm, where it goes through. -/
import Derived.Test.YtngbkagamhakiaaL12
namespace Go.Proofs.Ytngbkagamhakiaa.Q
open Go.RowKit Go.Proofs.YtngbkagamhakiaaW.PrintWords Go.Proofs.YtngbkagamhakiaaW.PrintLast Go.Proofs.YtngbkagamhakiaaW.PrintMore
open Go.Shelf
set_option linter.unusedVariables false
set_option linter.unusedSimpArgs false
attribute [local go_sem] Oper.semAt_some

set_option maxHeartbeats 16000000 in
set_option maxRecDepth 100000 in
theorem seq_Confirm.g_true_true (a0_0 : Bool) (a0_1 : Int) (a0_2 : Int) (P0_3_ : Nat → Prop) (A0_3 : Option Addr) (c0_3 : Nat) (l0_3 : List Int) (a1 : Int) (hz : (a1 == 0) = true) (top : Int) (htop_ : IntKind.u64.wrap (a1 - a0_2) = top) (hreach : l0_3.length ≤ 17592186044000) (w : World) (hs0_3 : Kd.V (Kd.int .u64) 22 w w.heap.size (fun k_ => P0_3_ k_) (.slice A0_3 l0_3.length c0_3) l0_3) :
    CallsIn Fence.wide 5 Try.prog 12 #[.agg #[.bool a0_0, .int .u64 a0_1, .int .u64 a0_2, .slice A0_3 l0_3.length c0_3], .int .u64 a1, .bool true] w fun e w' => ∃ v3_ v4_ : Value, e = .returned (.tuple #[.agg #[.bool a0_0, .int .u64 a0_1, .int .u64 a0_2, v3_], v4_, .int .i64 0]) ∧ Kd.V (Kd.int .u64) 22 w' w.heap.size (fun k_ => ((P0_3_ k_ ∨ w.heap.size ≤ k_) ∧ some k_ ≠ v4_.ownBlock)) v3_ (l0_3.filter fun n => !isIn true true top n) ∧ Kd.R (Kd.int .u64) 22 w' w.heap.size (fun _ => True) v4_ (l0_3.filter fun n => isIn true true top n) ∧ Below w.heap.size w w' := by
  have hu26 := Try.underlying26
  have HV := Kd.V_at hs0_3
  have HF := Aside0.mk (Kd.F_bound HV.2.2)
  have HC := Aside0.mk (Kd.F_now HV.2.2)
  have hcl : l0_3.length ≤ c0_3 := HV.2.1
  have hm : l0_3.length ≤ 9223372036854775807 := Kd.F_max HV.2.2
  have HS := Aside0.mk hs0_3
  clear hs0_3 HV
  have h15 : 1 ≤ 5 := by omega
  obtain ⟨i0, hi, hz0, hz1, hz2⟩ := info_parts info22
  have hI0 := Aside0.mk hi
  clear hi
  have eg : ∀ args w, (callFunc 18 args).run Try.prog w = .ok (.enter 18 args) w := enters_at Try.func18 (by kernel_rfl) rfl
  have EG := Aside0.mk eg
  have eg2 : ∀ args w, (callFunc 20 args).run Try.prog w = .ok (.enter 20 args) w := enters_at Try.func20 (by kernel_rfl) rfl
  have EG2 := Aside0.mk eg2
  clear eg eg2
  refine callsIn_of_wp_marks Try.func12 rfl trivial ?_ rfl
  simp only [Try.ntmps12, List.size_toArray, List.length_cons, List.length_nil, Nat.reduceAdd, Nat.reduceSub, Array.replicate_succ, Array.replicate_zero, List.push_toArray, List.append_toArray, List.nil_append, List.cons_append]
  gi_wp2_with fail
  all_goals (try (rename_i h1 h2; simp [undef] at h1; done))
  refine ⟨trivial, ?_⟩
  gi_wp2_with (refine ⟨trivial, ?_⟩; gi_at_call 19; refine (callsIn_wide.2 (seq_those.calls _ _ rfl rfl _ _ _ rfl _ _ rfl _)).mono ?_; rintro e w' ⟨rfl, rfl⟩)
  obtain ⟨W0, hW0, hsz0, b0, b1, b2, b3, b4, b5, b6, b7, b8, b9, hB0⟩ := ten w (.cells #[.bool a0_0, .int .u64 a0_1, .int .u64 a0_2, .slice A0_3 l0_3.length c0_3] 26) (.cells #[.bool true] 4) (.cells #[.bool false, .int .u64 0, .int .u64 0, .slice none 0 0] 26) (.cells #[.int .u64 top] 22) (.cells #[.bool true] 4) (.cells #[.func (.func 18) #[] #[.pointer (some ⟨w.heap.size + 1 + 1 + 1 + 1, 0, none⟩), .pointer (some ⟨w.heap.size + 1 + 1 + 1, 0, none⟩), .pointer (some ⟨w.heap.size + 1, 0, none⟩)]] 50) (.cells #[.slice none 0 0] 24) (.cells #[.slice none 0 0] 24) (.cells #[.slice A0_3 l0_3.length c0_3] 24) (.cells #[.func (.func 18) #[] #[.pointer (some ⟨w.heap.size + 1 + 1 + 1 + 1, 0, none⟩), .pointer (some ⟨w.heap.size + 1 + 1 + 1, 0, none⟩), .pointer (some ⟨w.heap.size + 1, 0, none⟩)]] 50)
  rw [← hW0]
  clear hW0
  have HSZ := hsz0
  have B0 := Aside0.mk b0
  have B1 := Aside0.mk b1
  have B2 := Aside0.mk b2
  have B3 := Aside0.mk b3
  have B4 := Aside0.mk b4
  have B5 := Aside0.mk b5
  have B6 := Aside0.mk b6
  have B7 := Aside0.mk b7
  have B8 := Aside0.mk b8
  have B9 := Aside0.mk b9
  have HB0 := Aside0.mk hB0
  clear b0 b1 b2 b3 b4 b5 b6 b7 b8 b9 hB0
  have HP1 : Aside0 (∀ W' x, KpB W0.heap.size (w.heap.size + 1 + 1 + 1 + 1 + 1 + 1) W0 W' → Calls Try.prog 18 (#[.int .u64 x] ++ #[.pointer (some ⟨w.heap.size + 1 + 1 + 1 + 1, 0, none⟩), .pointer (some ⟨w.heap.size + 1 + 1 + 1, 0, none⟩), .pointer (some ⟨w.heap.size + 1, 0, none⟩)]) W' fun e w' => e = .returned (.bool (isIn true true top x)) ∧ Drawn0 W' w') :=
    ⟨fun W' x hk => seq_Confirm1.calls x true true top _ _ _ W' (hk.blk B4.out (by omega) (by omega)) (hk.blk B3.out (by omega) (by omega)) (hk.blk B1.out (by omega) (by omega))⟩
  refine wpIn_rangeFunc_ownG rfl h15 (gf := 26) (lb := #[.pointer (some ⟨w.heap.size + 1 + 1 + 1 + 1 + 1 + 1 + 1 + 1, 0, none⟩), .pointer (some ⟨w.heap.size + 1 + 1 + 1 + 1 + 1 + 1 + 1 + 1 + 1, 0, none⟩)]) rfl trivial (enters_at Try.func26 (by kernel_rfl) rfl)
    (those1_stops (fun n => isIn true true top n) 18 #[.pointer (some ⟨w.heap.size + 1 + 1 + 1 + 1, 0, none⟩), .pointer (some ⟨w.heap.size + 1 + 1 + 1, 0, none⟩), .pointer (some ⟨w.heap.size + 1, 0, none⟩)] EG.out 4 (by omega) W0.heap.size (w.heap.size + 1 + 1 + 1 + 1 + 1 + 1) (w.heap.size + 1 + 1 + 1 + 1 + 1 + 1 + 1 + 1) (w.heap.size + 1 + 1 + 1 + 1 + 1 + 1 + 1 + 1 + 1) A0_3 c0_3 l0_3 hm W0 (Nat.le_refl _)
      (fun W' hk => (blk_cell (hk.blk B8.out (by omega) (by omega)) 0).trans rfl) (fun W' hk => (blk_cell (hk.blk B9.out (by omega) (by omega)) 0).trans rfl)
      (fun W' hk => Kd.F_now (Kd.F_step HF.out (fun k hok hlt => (hk.2 k (by omega) (by omega)).trans (HB0.out.block k hlt)))) HP1.out)
    (fun h k => h.trans k) (fun W l o o' hl h hc hw => KpB.put W l o o' hl h hc hw) (Below.refl _ _) (fun _ => rfl)
    (fun pre W => (∃ v, Boxed W (w.heap.size + 1 + 1 + 1 + 1 + 1 + 1) 24 v ∧ W.ownsRow W0.heap.size 22 1 v pre.length (pre.map (Value.int .u64)) ∧ True) ∧ KpB W0.heap.size (w.heap.size + 1 + 1 + 1 + 1 + 1 + 1) W0 W)
    (fun _ _ _ => False)
    (OwnFrom.and (Own.from (holdsRow_own W0.heap.size (w.heap.size + 1 + 1 + 1 + 1 + 1 + 1) 24 22 1 (fun pre : List Int => pre.length) (fun pre => pre.map (Value.int .u64)) (fun _ _ => True)) _) (ownFrom_kpB (Nat.le_refl _) (Nat.le_refl _)))
    (fun _ _ _ _ _ hs _ _ => hs)
    ⟨⟨_, B6.out, World.ownsRow_nil _ _ _ _, trivial⟩, KpB.refl _ _ _⟩
    ?a1 ?assign ?body ?done ?stop
  case assign =>
    intro l x W K hK
    gi_wp2
    exact hK
  case body =>
    rintro l pre x W ⟨⟨v, hv, hrow, -⟩, hK⟩ hlt
    have hc := hv.cell
    have hi := hI0.out
    have hpl : (l0_3.filter (fun n => isIn true true top n)).length ≤ l0_3.length := List.length_filter_le _ _
    gi_wp2_with (gi_at_builtin; refine wpListIn_append_own _ rfl _ _ 24 rfl W0.heap.size 22 i0 (.int .u64 0) 1 8 Try.underlying24 hi hz0 hz1 hz2 rfl (by decide) _ _ _ rfl (hrow.alloc _) ⟨W.heap.size, 0, none⟩ 1 1 [.int .u64 x] rfl rfl (cell_one_new _ _ _) (by simp [Value.oneCell']) (by simp only [maxLen]; omega) (by omega) (by have := hK.1; simp; omega) ?_; intro v' w1 hown' hgrow _; obtain ⟨g', cap', rfl⟩ := ownsRow_succ hown'; obtain ⟨hv1, hv2, hr2, hk2, hb2⟩ := boxed_appendedK hv (by decide) hrow hK.1 hown' hgrow; have hc1 := hv1.cell; have hf1 := hv1.frozen)
    exact ⟨hk2.from _, hb2, ⟨⟨_, hv2, by simpa using hr2, trivial⟩, hK.trans hb2⟩⟩
  case stop =>
    rintro D c pre W _ _ h _
    exact h.elim
  case done =>
    rintro D ys W hD rfl ⟨⟨v1, hv1, hrow1, -⟩, hK1⟩ hD1
    have hcS3 : W.cell? ⟨w.heap.size, 3, none⟩ = some (.slice A0_3 l0_3.length c0_3) := (blk_cell (hK1.blk B0.out (by omega) (by omega)) 3).trans rfl
    have HV1 := Aside0.mk hv1
    have HROW1 := Aside0.mk hrow1
    have HK1 := Aside0.mk hK1
    have HD1 := Aside0.mk hD1
    have hszW : w.heap.size + 10 ≤ W.heap.size := by have := hK1.1; omega
    have hDl : D < W.heap.size := (Array.getElem?_eq_some_iff.1 hD1).1
    clear hv1 hrow1 hK1 hD1
    gi_wp2_with (refine ⟨trivial, ?_⟩; gi_at_call 19; refine (callsIn_wide.2 (seq_those.calls _ _ rfl rfl _ _ _ rfl _ _ rfl _)).mono ?_; rintro e w' ⟨rfl, rfl⟩)
    obtain ⟨W2, hW2⟩ : ∃ X, X = (W.alloc (.cells #[.slice A0_3 l0_3.length c0_3] 24)).alloc (.cells #[.func (.func 20) #[] #[.pointer (some ⟨w.heap.size + 1 + 1 + 1 + 1 + 1, 0, none⟩)]] 50) := ⟨_, rfl⟩
    rw [← hW2]
    have hsz2 : W2.heap.size = W.heap.size + 2 := by rw [hW2]; simp
    have c8 : W2.heap[W.heap.size]? = some (.cells #[.slice A0_3 l0_3.length c0_3] 24) := by rw [hW2]; exact blk_alloc (blk_new W _) _
    have c9 : W2.heap[W.heap.size + 1]? = some (.cells #[.func (.func 20) #[] #[.pointer (some ⟨w.heap.size + 1 + 1 + 1 + 1 + 1, 0, none⟩)]] 50) := by
      rw [hW2]
      have h := blk_new (W.alloc (.cells #[.slice A0_3 l0_3.length c0_3] 24)) (.cells #[.func (.func 20) #[] #[.pointer (some ⟨w.heap.size + 1 + 1 + 1 + 1 + 1, 0, none⟩)]] 50)
      rwa [World.size_alloc] at h
    have hK12 : ∀ k, k < W.heap.size → W2.heap[k]? = W.heap[k]? := fun k hk => by
      rw [hW2]; exact (Below.heap_alloc _ _ k (by simp; omega)).trans (Below.heap_alloc _ _ k hk)
    have HK12 := Aside0.mk hK12
    have hold : ∀ {gg : Nat} {o : Obj}, W0.heap[gg]? = some o → gg < w.heap.size + 10 → gg ≠ w.heap.size + 1 + 1 + 1 + 1 + 1 + 1 → W2.heap[gg]? = some o := fun {gg o} hb hl hn =>
      (hK12 gg (by omega)).trans (HK1.out.blk hb (by omega) hn)
    have C0 := Aside0.mk (hold B0.out (by omega) (by omega))
    have C1 := Aside0.mk (hold B1.out (by omega) (by omega))
    have C2 := Aside0.mk (hold B2.out (by omega) (by omega))
    have C3 := Aside0.mk (hold B3.out (by omega) (by omega))
    have C4 := Aside0.mk (hold B4.out (by omega) (by omega))
    have C5 := Aside0.mk (hold B5.out (by omega) (by omega))
    have C7 := Aside0.mk (hold B7.out (by omega) (by omega))
    have C8 := Aside0.mk c8
    have C9 := Aside0.mk c9
    have CD := Aside0.mk ((hK12 D hDl).trans HD1.out)
    have CL : Aside0 (∀ k, k < w.heap.size → W2.heap[k]? = w.heap[k]?) := ⟨fun k hk => (hK12 k (by omega)).trans ((HK1.out.2 k (by omega) (by omega)).trans (HB0.out.block k hk))⟩
    clear c8 c9 hold hK12 hcS3
    have HP2 : Aside0 (∀ W' x, KpB W2.heap.size (w.heap.size + 1 + 1 + 1 + 1 + 1 + 1 + 1) W2 W' → Calls Try.prog 20 (#[.int .u64 x] ++ #[.pointer (some ⟨w.heap.size + 1 + 1 + 1 + 1 + 1, 0, none⟩)]) W' fun e w' => e = .returned (.bool (!isIn true true top x)) ∧ Drawn0 W' w') :=
      ⟨fun W' x hk => seq_Confirm2.calls x (isIn true true top) 18 #[.pointer (some ⟨w.heap.size + 1 + 1 + 1 + 1, 0, none⟩), .pointer (some ⟨w.heap.size + 1 + 1 + 1, 0, none⟩), .pointer (some ⟨w.heap.size + 1, 0, none⟩)] EG.out (w.heap.size + 1 + 1 + 1 + 1 + 1) W' (hk.blk C5.out (by omega) (by omega)) (seq_Confirm1.calls x true true top _ _ _ W' (hk.blk C4.out (by omega) (by omega)) (hk.blk C3.out (by omega) (by omega)) (hk.blk C1.out (by omega) (by omega)))⟩
    refine wpIn_rangeFunc_ownG rfl h15 (gf := 26) (lb := #[.pointer (some ⟨W.heap.size, 0, none⟩), .pointer (some ⟨W.heap.size + 1, 0, none⟩)]) rfl trivial (enters_at Try.func26 (by kernel_rfl) rfl)
      (those1_stops (fun n => !isIn true true top n) 20 #[.pointer (some ⟨w.heap.size + 1 + 1 + 1 + 1 + 1, 0, none⟩)] EG2.out 4 (by omega) W2.heap.size (w.heap.size + 1 + 1 + 1 + 1 + 1 + 1 + 1) (W.heap.size) (W.heap.size + 1) A0_3 c0_3 l0_3 hm W2 (Nat.le_refl _)
        (fun W' hk => (blk_cell (hk.blk C8.out (by omega) (by omega)) 0).trans rfl) (fun W' hk => (blk_cell (hk.blk C9.out (by omega) (by omega)) 0).trans rfl)
        (fun W' hk => Kd.F_now (Kd.F_step HF.out (fun k hok hlt => (hk.2 k (by omega) (by omega)).trans (CL.out k hlt)))) HP2.out)
      (fun h k => h.trans k) (fun W l o o' hl h hc hw => KpB.put W l o o' hl h hc hw) (Below.refl _ _) (fun _ => rfl)
      (fun pre X => (∃ v, Boxed X (w.heap.size + 1 + 1 + 1 + 1 + 1 + 1 + 1) 24 v ∧ X.ownsRow W2.heap.size 22 1 v pre.length (pre.map (Value.int .u64)) ∧ True) ∧ KpB W2.heap.size (w.heap.size + 1 + 1 + 1 + 1 + 1 + 1 + 1) W2 X)
      (fun _ _ _ => False)
      (OwnFrom.and (Own.from (holdsRow_own W2.heap.size (w.heap.size + 1 + 1 + 1 + 1 + 1 + 1 + 1) 24 22 1 (fun pre : List Int => pre.length) (fun pre => pre.map (Value.int .u64)) (fun _ _ => True)) _) (ownFrom_kpB (Nat.le_refl _) (Nat.le_refl _)))
      (fun _ _ _ _ _ hs _ _ => hs)
      ⟨⟨_, C7.out, World.ownsRow_nil _ _ _ _, trivial⟩, KpB.refl _ _ _⟩
      ?a2_ ?assign2 ?body2 ?done2 ?stop2
    case assign2 =>
      intro l x W' K hK
      gi_wp2
      exact hK
    case body2 =>
      rintro l pre x X ⟨⟨v, hv, hrow, -⟩, hK⟩ hlt
      have hc := hv.cell
      have hi := hI0.out
      have hpl : (l0_3.filter (fun n => !isIn true true top n)).length ≤ l0_3.length := List.length_filter_le _ _
      gi_wp2_with (gi_at_builtin; refine wpListIn_append_own _ rfl _ _ 24 rfl W2.heap.size 22 i0 (.int .u64 0) 1 8 Try.underlying24 hi hz0 hz1 hz2 rfl (by decide) _ _ _ rfl (hrow.alloc _) ⟨X.heap.size, 0, none⟩ 1 1 [.int .u64 x] rfl rfl (cell_one_new _ _ _) (by simp [Value.oneCell']) (by simp only [maxLen]; omega) (by omega) (by have := hK.1; simp; omega) ?_; intro v' w1 hown' hgrow _; obtain ⟨g', cap', rfl⟩ := ownsRow_succ hown'; obtain ⟨hv1, hv2, hr2, hk2, hb2⟩ := boxed_appendedK hv (by decide) hrow hK.1 hown' hgrow; have hc1 := hv1.cell; have hf1 := hv1.frozen)
      exact ⟨hk2.from _, hb2, ⟨⟨_, hv2, by simpa using hr2, trivial⟩, hK.trans hb2⟩⟩
    case stop2 =>
      rintro D' c pre W' _ _ h _
      exact h.elim
    case done2 =>
      rintro D' ys X hD' rfl ⟨⟨v2, hv2, hrow2, -⟩, hK2⟩ hD2
      obtain ⟨A1, n1, c1, rfl⟩ := own_slice HROW1.out
      obtain ⟨A2, n2, c2, rfl⟩ := own_slice hrow2
      have hszX : W2.heap.size ≤ X.heap.size := hK2.1
      have d0 := hK2.blk C0.out (by omega) (by omega)
      have d2 := hK2.blk C2.out (by omega) (by omega)
      have d6 : X.heap[w.heap.size + 1 + 1 + 1 + 1 + 1 + 1]? = some (.cells #[.slice A1 n1 c1] 24 (0, 0)) := hK2.blk ((HK12.out _ (by omega)).trans HV1.out) (by omega) (by omega)
      have dD := hK2.blk CD.out (by omega) (by have := hD; omega)
      have hcL := hv2.cell
      have hcO : X.cell? ⟨w.heap.size + 1 + 1 + 1 + 1 + 1 + 1, 0, none⟩ = some (.slice A1 n1 c1) := (blk_cell d6 0).trans rfl
      have hcs0 : X.cell? ⟨w.heap.size, 0, none⟩ = some (.bool a0_0) := (blk_cell d0 0).trans rfl; have hfs0 := blk_frozen d0 0; have hcs1 : X.cell? ⟨w.heap.size, 1, none⟩ = some (.int .u64 a0_1) := (blk_cell d0 1).trans rfl; have hfs1 := blk_frozen d0 1; have hcs2 : X.cell? ⟨w.heap.size, 2, none⟩ = some (.int .u64 a0_2) := (blk_cell d0 2).trans rfl; have hfs2 := blk_frozen d0 2; have hcs3 : X.cell? ⟨w.heap.size, 3, none⟩ = some (.slice A0_3 l0_3.length c0_3) := (blk_cell d0 3).trans rfl; have hfs3 := blk_frozen d0 3; have hcr0 : X.cell? ⟨w.heap.size + 1 + 1, 0, none⟩ = some (.bool false) := (blk_cell d2 0).trans rfl; have hfr0 := blk_frozen d2 0; have hcr1 : X.cell? ⟨w.heap.size + 1 + 1, 1, none⟩ = some (.int .u64 0) := (blk_cell d2 1).trans rfl; have hfr1 := blk_frozen d2 1; have hcr2 : X.cell? ⟨w.heap.size + 1 + 1, 2, none⟩ = some (.int .u64 0) := (blk_cell d2 2).trans rfl; have hfr2 := blk_frozen d2 2; have hcr3 : X.cell? ⟨w.heap.size + 1 + 1, 3, none⟩ = some (.slice none 0 0) := (blk_cell d2 3).trans rfl; have hfr3 := blk_frozen d2 3
      have D0 := Aside0.mk d0
      have DR := Aside0.mk d2
      have D6 := Aside0.mk d6
      have DD := Aside0.mk dD
      have DD2 := Aside0.mk hD2
      have HK2 := Aside0.mk hK2
      have HROW2 := Aside0.mk hrow2
      clear d0 d2 d6 dD hD2 hK2 hrow2 hv2
      gi_wp2
      gi_region
      gi_wp2
      obtain ⟨Xf, hXf⟩ : ∃ Y, Y = (((((X.setCell ⟨w.heap.size, 3, none⟩ (.slice A2 n2 c2)).setCell ⟨w.heap.size + 1 + 1, 0, none⟩ (.bool a0_0)).setCell ⟨w.heap.size + 1 + 1, 1, none⟩ (.int .u64 a0_1)).setCell ⟨w.heap.size + 1 + 1, 2, none⟩ (.int .u64 a0_2)).setCell ⟨w.heap.size + 1 + 1, 3, none⟩ (.slice A2 n2 c2)).drew := ⟨_, rfl⟩
      rw [← hXf]
      have hfar : ∀ k, k ≠ w.heap.size → k ≠ w.heap.size + 1 + 1 → Xf.heap[k]? = X.heap[k]? := fun k h1 h2 => by
        rw [hXf]
        exact (Below.heap_setCell _ _ _ k h2).trans ((Below.heap_setCell _ _ _ k h2).trans ((Below.heap_setCell _ _ _ k h2).trans ((Below.heap_setCell _ _ _ k h2).trans (Below.heap_setCell _ _ _ k h1))))
      have hXR : Xf.heap[w.heap.size + 1 + 1]? = some (.cells #[.bool a0_0, .int .u64 a0_1, .int .u64 a0_2, .slice A2 n2 c2] 26 (0, 0)) := by
        rw [hXf]
        exact (by (with_reducible repeat (first | refine blk_drewN ?_ _ | refine blk_drew ?_)); refine blk_put (cs := #[.bool a0_0, .int .u64 a0_1, .int .u64 a0_2, .slice none 0 0]) ?_ 3 _ rfl; (with_reducible repeat (first | refine blk_drewN ?_ _ | refine blk_drew ?_)); refine blk_put (cs := #[.bool a0_0, .int .u64 a0_1, .int .u64 0, .slice none 0 0]) ?_ 2 _ rfl; (with_reducible repeat (first | refine blk_drewN ?_ _ | refine blk_drew ?_)); refine blk_put (cs := #[.bool a0_0, .int .u64 0, .int .u64 0, .slice none 0 0]) ?_ 1 _ rfl; (with_reducible repeat (first | refine blk_drewN ?_ _ | refine blk_drew ?_)); refine blk_put (cs := #[.bool false, .int .u64 0, .int .u64 0, .slice none 0 0]) ?_ 0 _ rfl; (with_reducible repeat (first | refine blk_drewN ?_ _ | refine blk_drew ?_)); (refine blk_far ?_ (by first | omega | (simp; done) | (simp; omega)) _); exact DR.out)
      have hXS : Xf.heap.size = X.heap.size := by rw [hXf]; simp
      have hBf : Below w.heap.size w Xf := by
        have hb1 := below_kpB HB0.out HK1.out (by omega) (by omega)
        have hb2 : Below w.heap.size w W2 := by rw [hW2]; exact below_alloc (below_alloc hb1 _) _
        have hb3 := below_kpB hb2 HK2.out (by omega) (by omega)
        rw [hXf]
        repeat (first | apply below_drew1 | (refine below_set ?_ (by first | omega | (simp; done) | (simp; omega))))
        exact hb3
      have hDX : D' < X.heap.size := (Array.getElem?_eq_some_iff.1 DD2.out).1
      have e1 : Xf.heap[D']? = some (.deferred (some [])) := (hfar D' (by omega) (by omega)).trans DD2.out
      have e2 : (Xf.putObj D' (.deferred none)).heap[D]? = some (.deferred (some [])) := (World.putObj_heap_other (by omega)).trans ((hfar D (by omega) (by omega)).trans DD.out)
      have e3 : ((Xf.putObj D' (.deferred none)).putObj D (.deferred none)).heap[w.heap.size + 1 + 1]? = some (.cells #[.bool a0_0, .int .u64 a0_1, .int .u64 a0_2, .slice A2 n2 c2] 26 (0, 0)) := (World.putObj_heap_other (by omega)).trans ((World.putObj_heap_other (by omega)).trans hXR)
      refine ⟨by simp, .inl ⟨_, _, rfl, run_takeDeferred e1, ⟨by simp, .inl ⟨_, _, rfl, run_takeDeferred e2, ?_⟩⟩⟩⟩
      refine ⟨_, results_ctt rfl _ _ (w.heap.size + 1 + 1) 26 #[.bool a0_0, .int .u64 a0_1, .int .u64 a0_2, .slice A2 n2 c2] (0, 0) _ rfl e3 Try.underlying26 rfl (by kernel_rfl), ?_⟩
      refine fin_granted HROW1.out HROW2.out (fun k h1 h2 h3 => ?_) (fun k h1 h2 h3 => ?_) (by omega) (by omega) (by omega) (below_put (below_put hBf _ _ (by omega)) _ _ (by omega))
      · have hkD : k ≠ D := by
          rintro rfl
          obtain ⟨cc, h3⟩ := h3
          rw [HD1.out] at h3
          cases h3
        exact (World.putObj_heap_other hkD).trans ((World.putObj_heap_other (by omega)).trans ((hfar k (by omega) (by omega)).trans ((HK2.out.2 k (by omega) (by omega)).trans (HK12.out k h2))))
      · have hkD : k ≠ D' := by
          rintro rfl
          obtain ⟨cc, h3⟩ := h3
          rw [DD2.out] at h3
          cases h3
        exact (World.putObj_heap_other (by omega)).trans ((World.putObj_heap_other hkD).trans (hfar k (by omega) (by omega)))
end Go.Proofs.Ytngbkagamhakiaa.Q
