/- tags.Settle, where it is refused. -/
import Derived.Test.YtoljcjlflanflaaH24
import Derived.Test.YtoljcjlflanflaaH20
namespace Go.Proofs.Ytoljcjlflanflaa.Q
open Go.RowKit Go.Proofs.YtoljcjlflanflaaW.PrintWords Go.Proofs.YtoljcjlflanflaaW.PrintLast Go.Proofs.YtoljcjlflanflaaW.PrintMore
open Go.Shelf
set_option linter.unusedVariables false
set_option linter.unusedSimpArgs false
attribute [local go_sem] Oper.semAt_some

theorem fin_refused {P : Nat → Prop} {w W : World} {A : Option Addr} {n c : Nat} {l : List S47} {a0_0 a0_1 : Int} (hs : Kd.V k47 47 w w.heap.size (fun k_ => P k_) (.slice A n c) l) (hb : Below w.heap.size w W) :
    ∃ v2_ v3_ : Value, Ending.returned (.tuple #[.agg #[.int .u64 a0_0, .int .u64 a0_1, .slice A n c], .slice none 0 0, .int .i64 13]) = .returned (.tuple #[.agg #[.int .u64 a0_0, .int .u64 a0_1, v2_], v3_, .int .i64 13]) ∧ Kd.V k47 47 W w.heap.size (fun k_ => ((P k_ ∨ w.heap.size ≤ k_) ∧ some k_ ≠ v3_.ownBlock)) v2_ l ∧ Kd.R (Kd.int .u64) 22 W w.heap.size (fun _ => True) v3_ [] ∧ Below w.heap.size w W :=
  ⟨_, _, rfl, Kd.V_mono (Kd.V_below hs hb) (fun k_ hk => ⟨Or.inl hk, by simp [Value.ownBlock]⟩), Kd.R_nil _ _ _ _ _, hb⟩

set_option maxHeartbeats 16000000 in
set_option maxRecDepth 100000 in
theorem tags_Settle.e_one (a0_0 a0_1 : Int) (P0_2_ : Nat → Prop) (A0_2 : Option Addr) (c0_2 : Nat) (l0_2 : List S47) (a1 : Int) (w : World) (hs0_2 : Kd.V k47 47 w w.heap.size (fun k_ => P0_2_ k_) (.slice A0_2 l0_2.length c0_2) l0_2) (his : placeIs l0_2 a1 = false) :
    CallsIn Fence.wide 5 Try.prog 12 #[.agg #[.int .u64 a0_0, .int .u64 a0_1, .slice A0_2 l0_2.length c0_2], .int .u64 a1, .bool false] w fun e w' => ∃ v2_ v3_ : Value, e = .returned (.tuple #[.agg #[.int .u64 a0_0, .int .u64 a0_1, v2_], v3_, .int .i64 13]) ∧ Kd.V k47 47 w' w.heap.size (fun k_ => ((P0_2_ k_ ∨ w.heap.size ≤ k_) ∧ some k_ ≠ v3_.ownBlock)) v2_ l0_2 ∧ Kd.R (Kd.int .u64) 22 w' w.heap.size (fun _ => True) v3_ [] ∧ Below w.heap.size w w' := by
  have hu25 := Try.underlying25
  have hu47 := Try.underlying47
  have HV := Kd.V_at hs0_2
  have HF := Aside0.mk (Kd.F_bound HV.2.2)
  have HC := Aside0.mk (Kd.F_now HV.2.2)
  have hcl : l0_2.length ≤ c0_2 := HV.2.1
  have hm : l0_2.length ≤ 9223372036854775807 := Kd.F_max HV.2.2
  have HS := Aside0.mk hs0_2
  have HP := Aside0.mk (tags_place.calls a0_0 a0_1 A0_2 c0_2 l0_2 a1)
  clear hs0_2 HV
  rw [his] at HP
  obtain ⟨i, hi⟩ : ∃ i, bsI l0_2 a1 = i := ⟨_, rfl⟩
  rw [hi] at HP
  have HB0 : Aside0 (Below w.heap.size w ((w.alloc (.cells #[.int .u64 a0_0, .int .u64 a0_1, .slice A0_2 l0_2.length c0_2] 25)).alloc (.cells #[.int .u64 0, .int .u64 0, .slice none 0 0] 25))) := ⟨below_alloc (below_alloc (Below.refl _ _) _) _⟩
  have b0 : ((w.alloc (.cells #[.int .u64 a0_0, .int .u64 a0_1, .slice A0_2 l0_2.length c0_2] 25)).alloc (.cells #[.int .u64 0, .int .u64 0, .slice none 0 0] 25)).heap[w.heap.size]? = some (.cells #[.int .u64 a0_0, .int .u64 a0_1, .slice A0_2 l0_2.length c0_2] 25 (0, 0)) := blk_alloc (blk_new w _) _
  have b1 : ((w.alloc (.cells #[.int .u64 a0_0, .int .u64 a0_1, .slice A0_2 l0_2.length c0_2] 25)).alloc (.cells #[.int .u64 0, .int .u64 0, .slice none 0 0] 25)).heap[w.heap.size + 1]? = some (.cells #[.int .u64 0, .int .u64 0, .slice none 0 0] 25 (0, 0)) := by
    have h := blk_new (w.alloc (.cells #[.int .u64 a0_0, .int .u64 a0_1, .slice A0_2 l0_2.length c0_2] 25)) (.cells #[.int .u64 0, .int .u64 0, .slice none 0 0] 25)
    rwa [World.size_alloc] at h
  have hsz0 : ((w.alloc (.cells #[.int .u64 a0_0, .int .u64 a0_1, .slice A0_2 l0_2.length c0_2] 25)).alloc (.cells #[.int .u64 0, .int .u64 0, .slice none 0 0] 25)).heap.size = w.heap.size + 2 := by simp
  have B0 := Aside0.mk b0
  have B1 := Aside0.mk b1
  clear b0 b1
  refine callsIn_of_wp_marks Try.func12 rfl trivial ?_ rfl
  simp only [Try.ntmps12, List.size_toArray, List.length_cons, List.length_nil, Nat.reduceAdd, Nat.reduceSub, Array.replicate_succ, Array.replicate_zero, List.push_toArray, List.append_toArray, List.nil_append, List.cons_append]
  gi_wp2_with (refine ⟨trivial, ?_⟩; gi_at_call 18; refine (callsIn_wide.2 (HP.out _ (Kd.C_below HC.out HB0.out))).mono ?_; rintro e w5 ⟨rfl, hb2⟩; have bS := blk_below B0.out hb2; have bR := blk_below B1.out hb2; have hcs0 : w5.cell? ⟨w.heap.size, 0, none⟩ = some (.int .u64 a0_0) := (blk_cell bS 0).trans rfl; have hfs0 := blk_frozen bS 0; have hcs1 : w5.cell? ⟨w.heap.size, 1, none⟩ = some (.int .u64 a0_1) := (blk_cell bS 1).trans rfl; have hfs1 := blk_frozen bS 1; have hcs2 : w5.cell? ⟨w.heap.size, 2, none⟩ = some (.slice A0_2 l0_2.length c0_2) := (blk_cell bS 2).trans rfl; have hfs2 := blk_frozen bS 2; have hcr0 : w5.cell? ⟨w.heap.size + 1, 0, none⟩ = some (.int .u64 0) := (blk_cell bR 0).trans rfl; have hfr0 := blk_frozen bR 0; have hcr1 : w5.cell? ⟨w.heap.size + 1, 1, none⟩ = some (.int .u64 0) := (blk_cell bR 1).trans rfl; have hfr1 := blk_frozen bR 1; have hcr2 : w5.cell? ⟨w.heap.size + 1, 2, none⟩ = some (.slice none 0 0) := (blk_cell bR 2).trans rfl; have hfr2 := blk_frozen bR 2; have BS := Aside0.mk bS; have BR := Aside0.mk bR; have HB5 := Aside0.mk (HB0.out.trans (hb2.mono HB0.out.size)); have hsz5 := hb2.size; clear hb2 bS bR)
  refine ⟨_, results_ctt rfl _ _ (w.heap.size + 1) 25 #[.int .u64 a0_0, .int .u64 a0_1, .slice A0_2 l0_2.length c0_2] (0, 0) _ rfl (by (with_reducible repeat (first | refine blk_drewN ?_ _ | refine blk_drew ?_)); refine blk_put (cs := #[.int .u64 a0_0, .int .u64 a0_1, .slice none 0 0]) ?_ 2 _ rfl; (with_reducible repeat (first | refine blk_drewN ?_ _ | refine blk_drew ?_)); refine blk_put (cs := #[.int .u64 a0_0, .int .u64 0, .slice none 0 0]) ?_ 1 _ rfl; (with_reducible repeat (first | refine blk_drewN ?_ _ | refine blk_drew ?_)); refine blk_put (cs := #[.int .u64 0, .int .u64 0, .slice none 0 0]) ?_ 0 _ rfl; (with_reducible repeat (first | refine blk_drewN ?_ _ | refine blk_drew ?_)); exact BR.out) Try.underlying25 rfl (by kernel_rfl), ?_⟩
  refine fin_refused (a0_0 := a0_0) (a0_1 := a0_1) HS.out ?_
  repeat (first | apply below_alloc | apply pw_below_drewN | apply below_drew1 | (refine below_set ?_ (by first | omega | (simp; done) | (simp; omega))))
  exact HB5.out

set_option maxHeartbeats 16000000 in
set_option maxRecDepth 100000 in
theorem tags_Settle.e_many (a0_0 a0_1 : Int) (P0_2_ : Nat → Prop) (A0_2 : Option Addr) (c0_2 : Nat) (l0_2 : List S47) (a1 : Int) (w : World) (hs0_2 : Kd.V k47 47 w w.heap.size (fun k_ => P0_2_ k_) (.slice A0_2 l0_2.length c0_2) l0_2) (hz : (a1 == 0) = false) (his : placeIs l0_2 a1 = false) :
    CallsIn Fence.wide 5 Try.prog 12 #[.agg #[.int .u64 a0_0, .int .u64 a0_1, .slice A0_2 l0_2.length c0_2], .int .u64 a1, .bool true] w fun e w' => ∃ v2_ v3_ : Value, e = .returned (.tuple #[.agg #[.int .u64 a0_0, .int .u64 a0_1, v2_], v3_, .int .i64 13]) ∧ Kd.V k47 47 w' w.heap.size (fun k_ => ((P0_2_ k_ ∨ w.heap.size ≤ k_) ∧ some k_ ≠ v3_.ownBlock)) v2_ l0_2 ∧ Kd.R (Kd.int .u64) 22 w' w.heap.size (fun _ => True) v3_ [] ∧ Below w.heap.size w w' := by
  have hu25 := Try.underlying25
  have hu47 := Try.underlying47
  have HV := Kd.V_at hs0_2
  have HF := Aside0.mk (Kd.F_bound HV.2.2)
  have HC := Aside0.mk (Kd.F_now HV.2.2)
  have hcl : l0_2.length ≤ c0_2 := HV.2.1
  have hm : l0_2.length ≤ 9223372036854775807 := Kd.F_max HV.2.2
  have HS := Aside0.mk hs0_2
  have HP := Aside0.mk (tags_place.calls a0_0 a0_1 A0_2 c0_2 l0_2 a1)
  clear hs0_2 HV
  rw [his] at HP
  obtain ⟨i, hi⟩ : ∃ i, bsI l0_2 a1 = i := ⟨_, rfl⟩
  rw [hi] at HP
  have HB0 : Aside0 (Below w.heap.size w ((w.alloc (.cells #[.int .u64 a0_0, .int .u64 a0_1, .slice A0_2 l0_2.length c0_2] 25)).alloc (.cells #[.int .u64 0, .int .u64 0, .slice none 0 0] 25))) := ⟨below_alloc (below_alloc (Below.refl _ _) _) _⟩
  have b0 : ((w.alloc (.cells #[.int .u64 a0_0, .int .u64 a0_1, .slice A0_2 l0_2.length c0_2] 25)).alloc (.cells #[.int .u64 0, .int .u64 0, .slice none 0 0] 25)).heap[w.heap.size]? = some (.cells #[.int .u64 a0_0, .int .u64 a0_1, .slice A0_2 l0_2.length c0_2] 25 (0, 0)) := blk_alloc (blk_new w _) _
  have b1 : ((w.alloc (.cells #[.int .u64 a0_0, .int .u64 a0_1, .slice A0_2 l0_2.length c0_2] 25)).alloc (.cells #[.int .u64 0, .int .u64 0, .slice none 0 0] 25)).heap[w.heap.size + 1]? = some (.cells #[.int .u64 0, .int .u64 0, .slice none 0 0] 25 (0, 0)) := by
    have h := blk_new (w.alloc (.cells #[.int .u64 a0_0, .int .u64 a0_1, .slice A0_2 l0_2.length c0_2] 25)) (.cells #[.int .u64 0, .int .u64 0, .slice none 0 0] 25)
    rwa [World.size_alloc] at h
  have hsz0 : ((w.alloc (.cells #[.int .u64 a0_0, .int .u64 a0_1, .slice A0_2 l0_2.length c0_2] 25)).alloc (.cells #[.int .u64 0, .int .u64 0, .slice none 0 0] 25)).heap.size = w.heap.size + 2 := by simp
  have B0 := Aside0.mk b0
  have B1 := Aside0.mk b1
  clear b0 b1
  refine callsIn_of_wp_marks Try.func12 rfl trivial ?_ rfl
  simp only [Try.ntmps12, List.size_toArray, List.length_cons, List.length_nil, Nat.reduceAdd, Nat.reduceSub, Array.replicate_succ, Array.replicate_zero, List.push_toArray, List.append_toArray, List.nil_append, List.cons_append]
  gi_wp2_with (refine ⟨trivial, ?_⟩; gi_at_call 18; refine (callsIn_wide.2 (HP.out _ (Kd.C_below HC.out HB0.out))).mono ?_; rintro e w5 ⟨rfl, hb2⟩; have bS := blk_below B0.out hb2; have bR := blk_below B1.out hb2; have hcs0 : w5.cell? ⟨w.heap.size, 0, none⟩ = some (.int .u64 a0_0) := (blk_cell bS 0).trans rfl; have hfs0 := blk_frozen bS 0; have hcs1 : w5.cell? ⟨w.heap.size, 1, none⟩ = some (.int .u64 a0_1) := (blk_cell bS 1).trans rfl; have hfs1 := blk_frozen bS 1; have hcs2 : w5.cell? ⟨w.heap.size, 2, none⟩ = some (.slice A0_2 l0_2.length c0_2) := (blk_cell bS 2).trans rfl; have hfs2 := blk_frozen bS 2; have hcr0 : w5.cell? ⟨w.heap.size + 1, 0, none⟩ = some (.int .u64 0) := (blk_cell bR 0).trans rfl; have hfr0 := blk_frozen bR 0; have hcr1 : w5.cell? ⟨w.heap.size + 1, 1, none⟩ = some (.int .u64 0) := (blk_cell bR 1).trans rfl; have hfr1 := blk_frozen bR 1; have hcr2 : w5.cell? ⟨w.heap.size + 1, 2, none⟩ = some (.slice none 0 0) := (blk_cell bR 2).trans rfl; have hfr2 := blk_frozen bR 2; have BS := Aside0.mk bS; have BR := Aside0.mk bR; have HB5 := Aside0.mk (HB0.out.trans (hb2.mono HB0.out.size)); have hsz5 := hb2.size; clear hb2 bS bR)
  refine ⟨_, results_ctt rfl _ _ (w.heap.size + 1) 25 #[.int .u64 a0_0, .int .u64 a0_1, .slice A0_2 l0_2.length c0_2] (0, 0) _ rfl (by (with_reducible repeat (first | refine blk_drewN ?_ _ | refine blk_drew ?_)); refine blk_put (cs := #[.int .u64 a0_0, .int .u64 a0_1, .slice none 0 0]) ?_ 2 _ rfl; (with_reducible repeat (first | refine blk_drewN ?_ _ | refine blk_drew ?_)); refine blk_put (cs := #[.int .u64 a0_0, .int .u64 0, .slice none 0 0]) ?_ 1 _ rfl; (with_reducible repeat (first | refine blk_drewN ?_ _ | refine blk_drew ?_)); refine blk_put (cs := #[.int .u64 0, .int .u64 0, .slice none 0 0]) ?_ 0 _ rfl; (with_reducible repeat (first | refine blk_drewN ?_ _ | refine blk_drew ?_)); exact BR.out) Try.underlying25 rfl (by kernel_rfl), ?_⟩
  refine fin_refused (a0_0 := a0_0) (a0_1 := a0_1) HS.out ?_
  repeat (first | apply below_alloc | apply pw_below_drewN | apply below_drew1 | (refine below_set ?_ (by first | omega | (simp; done) | (simp; omega))))
  exact HB5.out

set_option maxHeartbeats 16000000 in
set_option maxRecDepth 100000 in
theorem tags_Settle.e_none (a0_0 a0_1 : Int) (P0_2_ : Nat → Prop) (A0_2 : Option Addr) (c0_2 : Nat) (l0_2 : List S47) (a1 : Int) (w : World) (hs0_2 : Kd.V k47 47 w w.heap.size (fun k_ => P0_2_ k_) (.slice A0_2 l0_2.length c0_2) l0_2) (hz : (a1 == 0) = true) (hl0 : l0_2.length = 0) :
    CallsIn Fence.wide 5 Try.prog 12 #[.agg #[.int .u64 a0_0, .int .u64 a0_1, .slice A0_2 l0_2.length c0_2], .int .u64 a1, .bool true] w fun e w' => ∃ v2_ v3_ : Value, e = .returned (.tuple #[.agg #[.int .u64 a0_0, .int .u64 a0_1, v2_], v3_, .int .i64 13]) ∧ Kd.V k47 47 w' w.heap.size (fun k_ => ((P0_2_ k_ ∨ w.heap.size ≤ k_) ∧ some k_ ≠ v3_.ownBlock)) v2_ l0_2 ∧ Kd.R (Kd.int .u64) 22 w' w.heap.size (fun _ => True) v3_ [] ∧ Below w.heap.size w w' := by
  obtain rfl : l0_2 = [] := List.eq_nil_of_length_eq_zero hl0
  clear hl0
  have hu25 := Try.underlying25
  have hu47 := Try.underlying47
  have HV := Kd.V_at hs0_2
  have HF := Aside0.mk (Kd.F_bound HV.2.2)
  have HC := Aside0.mk (Kd.F_now HV.2.2)
  have hcl : ([] : List S47).length ≤ c0_2 := HV.2.1
  have hm : ([] : List S47).length ≤ 9223372036854775807 := Kd.F_max HV.2.2
  have HS := Aside0.mk hs0_2
  have HP := Aside0.mk (tags_place.calls a0_0 a0_1 A0_2 c0_2 [] a1)
  clear hs0_2 HV
  obtain ⟨i, hi⟩ : ∃ i, bsI [] a1 = i := ⟨_, rfl⟩
  rw [hi] at HP
  obtain ⟨is, his⟩ : ∃ is, placeIs [] a1 = is := ⟨_, rfl⟩
  rw [his] at HP
  have HB0 : Aside0 (Below w.heap.size w ((w.alloc (.cells #[.int .u64 a0_0, .int .u64 a0_1, .slice A0_2 ([] : List S47).length c0_2] 25)).alloc (.cells #[.int .u64 0, .int .u64 0, .slice none 0 0] 25))) := ⟨below_alloc (below_alloc (Below.refl _ _) _) _⟩
  have b0 : ((w.alloc (.cells #[.int .u64 a0_0, .int .u64 a0_1, .slice A0_2 ([] : List S47).length c0_2] 25)).alloc (.cells #[.int .u64 0, .int .u64 0, .slice none 0 0] 25)).heap[w.heap.size]? = some (.cells #[.int .u64 a0_0, .int .u64 a0_1, .slice A0_2 ([] : List S47).length c0_2] 25 (0, 0)) := blk_alloc (blk_new w _) _
  have b1 : ((w.alloc (.cells #[.int .u64 a0_0, .int .u64 a0_1, .slice A0_2 ([] : List S47).length c0_2] 25)).alloc (.cells #[.int .u64 0, .int .u64 0, .slice none 0 0] 25)).heap[w.heap.size + 1]? = some (.cells #[.int .u64 0, .int .u64 0, .slice none 0 0] 25 (0, 0)) := by
    have h := blk_new (w.alloc (.cells #[.int .u64 a0_0, .int .u64 a0_1, .slice A0_2 ([] : List S47).length c0_2] 25)) (.cells #[.int .u64 0, .int .u64 0, .slice none 0 0] 25)
    rwa [World.size_alloc] at h
  have hsz0 : ((w.alloc (.cells #[.int .u64 a0_0, .int .u64 a0_1, .slice A0_2 ([] : List S47).length c0_2] 25)).alloc (.cells #[.int .u64 0, .int .u64 0, .slice none 0 0] 25)).heap.size = w.heap.size + 2 := by simp
  have B0 := Aside0.mk b0
  have B1 := Aside0.mk b1
  clear b0 b1
  refine callsIn_of_wp_marks Try.func12 rfl trivial ?_ rfl
  simp only [Try.ntmps12, List.size_toArray, List.length_cons, List.length_nil, Nat.reduceAdd, Nat.reduceSub, Array.replicate_succ, Array.replicate_zero, List.push_toArray, List.append_toArray, List.nil_append, List.cons_append]
  gi_wp2_with (refine ⟨trivial, ?_⟩; gi_at_call 18; refine (callsIn_wide.2 (HP.out _ (Kd.C_below HC.out HB0.out))).mono ?_; rintro e w5 ⟨rfl, hb2⟩; have bS := blk_below B0.out hb2; have bR := blk_below B1.out hb2; have hcs0 : w5.cell? ⟨w.heap.size, 0, none⟩ = some (.int .u64 a0_0) := (blk_cell bS 0).trans rfl; have hfs0 := blk_frozen bS 0; have hcs1 : w5.cell? ⟨w.heap.size, 1, none⟩ = some (.int .u64 a0_1) := (blk_cell bS 1).trans rfl; have hfs1 := blk_frozen bS 1; have hcs2 : w5.cell? ⟨w.heap.size, 2, none⟩ = some (.slice A0_2 ([] : List S47).length c0_2) := (blk_cell bS 2).trans rfl; have hfs2 := blk_frozen bS 2; have hcr0 : w5.cell? ⟨w.heap.size + 1, 0, none⟩ = some (.int .u64 0) := (blk_cell bR 0).trans rfl; have hfr0 := blk_frozen bR 0; have hcr1 : w5.cell? ⟨w.heap.size + 1, 1, none⟩ = some (.int .u64 0) := (blk_cell bR 1).trans rfl; have hfr1 := blk_frozen bR 1; have hcr2 : w5.cell? ⟨w.heap.size + 1, 2, none⟩ = some (.slice none 0 0) := (blk_cell bR 2).trans rfl; have hfr2 := blk_frozen bR 2; have BS := Aside0.mk bS; have BR := Aside0.mk bR; have HB5 := Aside0.mk (HB0.out.trans (hb2.mono HB0.out.size)); have hsz5 := hb2.size; clear hb2 bS bR)
  gi_region
  gi_wp2
  refine ⟨_, results_ctt rfl _ _ (w.heap.size + 1) 25 #[.int .u64 a0_0, .int .u64 a0_1, .slice A0_2 ([] : List S47).length c0_2] (0, 0) _ rfl (by (with_reducible repeat (first | refine blk_drewN ?_ _ | refine blk_drew ?_)); refine blk_put (cs := #[.int .u64 a0_0, .int .u64 a0_1, .slice none 0 0]) ?_ 2 _ rfl; (with_reducible repeat (first | refine blk_drewN ?_ _ | refine blk_drew ?_)); refine blk_put (cs := #[.int .u64 a0_0, .int .u64 0, .slice none 0 0]) ?_ 1 _ rfl; (with_reducible repeat (first | refine blk_drewN ?_ _ | refine blk_drew ?_)); refine blk_put (cs := #[.int .u64 0, .int .u64 0, .slice none 0 0]) ?_ 0 _ rfl; (with_reducible repeat (first | refine blk_drewN ?_ _ | refine blk_drew ?_)); exact BR.out) Try.underlying25 rfl (by kernel_rfl), ?_⟩
  refine fin_refused (a0_0 := a0_0) (a0_1 := a0_1) HS.out ?_
  repeat (first | apply below_alloc | apply pw_below_drewN | apply below_drew1 | (refine below_set ?_ (by first | omega | (simp; done) | (simp; omega))))
  exact HB5.out
end Go.Proofs.Ytoljcjlflanflaa.Q
