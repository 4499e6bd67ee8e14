/- seq.Confirm, where it is refused. -/
import Derived.Test.YtngbkagamhakiaaL12
namespace Go.Proofs.Ytngbkagamhakiaa.Q
open Go.RowKit Go.Proofs.YtngbkagamhakiaaW.PrintWords Go.Proofs.YtngbkagamhakiaaW.PrintLast Go.Proofs.YtngbkagamhakiaaW.PrintMore
open Go.Shelf
set_option linter.unusedVariables false
set_option linter.unusedSimpArgs false
attribute [local go_sem] Oper.semAt_some

theorem blk_new3 (w : World) (o1 o2 o3 : Obj) : (((w.alloc o1).alloc o2).alloc o3).heap[w.heap.size + 1 + 1]? = some o3 := by
  have h := blk_new ((w.alloc o1).alloc o2) o3
  rwa [World.size_alloc, World.size_alloc] at h
theorem fin_refused {P : Nat → Prop} {w W : World} {A : Option Addr} {n c : Nat} {l : List Int} {on : Bool} {a0_1 a0_2 : Int} (hs : Kd.V (Kd.int .u64) 22 w w.heap.size (fun k_ => P k_) (.slice A n c) l) (hb : Below w.heap.size w W) :
    ∃ v3_ v4_ : Value, Ending.returned (.tuple #[.agg #[.bool on, .int .u64 a0_1, .int .u64 a0_2, .slice A n c], .slice none 0 0, .int .i64 16]) = .returned (.tuple #[.agg #[.bool on, .int .u64 a0_1, .int .u64 a0_2, v3_], v4_, .int .i64 16]) ∧ Kd.V (Kd.int .u64) 22 W w.heap.size (fun k_ => ((P k_ ∨ w.heap.size ≤ k_) ∧ some k_ ≠ v4_.ownBlock)) v3_ l ∧ Kd.R (Kd.int .u64) 22 W w.heap.size (fun _ => True) v4_ [] ∧ Below w.heap.size w W :=
  ⟨_, _, rfl, Kd.V_mono (Kd.V_below hs hb) (fun k_ hk => ⟨Or.inl hk, by simp [Value.ownBlock]⟩), Kd.R_nil _ _ _ _ _, hb⟩

set_option maxHeartbeats 16000000 in
set_option maxRecDepth 100000 in
theorem seq_Confirm.e_true_off (a0_1 : Int) (a0_2 : Int) (P0_3_ : Nat → Prop) (A0_3 : Option Addr) (c0_3 : Nat) (l0_3 : List Int) (a1 : Int) (hz : (a1 == 0) = false) (hz' : ¬ a1 = 0) (top : Int) (htop_ : IntKind.u64.wrap (a1 - a0_2) = top) (w : World) (hs0_3 : Kd.V (Kd.int .u64) 22 w w.heap.size (fun k_ => P0_3_ k_) (.slice A0_3 l0_3.length c0_3) l0_3) :
    CallsIn Fence.wide 5 Try.prog 12 #[.agg #[.bool false, .int .u64 a0_1, .int .u64 a0_2, .slice A0_3 l0_3.length c0_3], .int .u64 a1, .bool true] w fun e w' => ∃ v3_ v4_ : Value, e = .returned (.tuple #[.agg #[.bool false, .int .u64 a0_1, .int .u64 a0_2, v3_], v4_, .int .i64 16]) ∧ Kd.V (Kd.int .u64) 22 w' w.heap.size (fun k_ => ((P0_3_ k_ ∨ w.heap.size ≤ k_) ∧ some k_ ≠ v4_.ownBlock)) v3_ l0_3 ∧ Kd.R (Kd.int .u64) 22 w' w.heap.size (fun _ => True) v4_ [] ∧ Below w.heap.size w w' := by
  have hu26 := Try.underlying26
  have HV := Kd.V_at hs0_3
  have HF := Aside0.mk (Kd.F_bound HV.2.2)
  have HC := Aside0.mk (Kd.F_now HV.2.2)
  have hcl : l0_3.length ≤ c0_3 := HV.2.1
  have hm : l0_3.length ≤ 9223372036854775807 := Kd.F_max HV.2.2
  have HS := Aside0.mk hs0_3
  clear hs0_3 HV
  refine callsIn_of_wp_marks Try.func12 rfl trivial ?_ rfl
  simp only [Try.ntmps12, List.size_toArray, List.length_cons, List.length_nil, Nat.reduceAdd, Nat.reduceSub, Array.replicate_succ, Array.replicate_zero, List.push_toArray, List.append_toArray, List.nil_append, List.cons_append]
  gi_wp2
  refine ⟨trivial, ?_⟩
  gi_wp2
  refine ⟨_, results_ctt rfl _ _ (w.heap.size + 1 + 1) 26 #[.bool false, .int .u64 a0_1, .int .u64 a0_2, .slice A0_3 l0_3.length c0_3] (0, 0) _ rfl (blk_alloc (blk_alloc (blk_new3 w _ _ _) _) _) Try.underlying26 rfl (by kernel_rfl), ?_⟩
  refine fin_refused (a0_1 := a0_1) (a0_2 := a0_2) HS.out ?_
  repeat (first | apply below_alloc | apply pw_below_drewN | (refine below_set ?_ (by first | omega | (simp; done) | (simp; omega))))
  exact Below.refl _ _

set_option maxHeartbeats 16000000 in
set_option maxRecDepth 100000 in
theorem seq_Confirm.e_true_le (a0_1 : Int) (a0_2 : Int) (P0_3_ : Nat → Prop) (A0_3 : Option Addr) (c0_3 : Nat) (l0_3 : List Int) (a1 : Int) (hz : (a1 == 0) = false) (hz' : ¬ a1 = 0) (top : Int) (htop_ : IntKind.u64.wrap (a1 - a0_2) = top) (w : World) (hs0_3 : Kd.V (Kd.int .u64) 22 w w.heap.size (fun k_ => P0_3_ k_) (.slice A0_3 l0_3.length c0_3) l0_3) (hle : a1 ≤ a0_2) :
    CallsIn Fence.wide 5 Try.prog 12 #[.agg #[.bool true, .int .u64 a0_1, .int .u64 a0_2, .slice A0_3 l0_3.length c0_3], .int .u64 a1, .bool true] w fun e w' => ∃ v3_ v4_ : Value, e = .returned (.tuple #[.agg #[.bool true, .int .u64 a0_1, .int .u64 a0_2, v3_], v4_, .int .i64 16]) ∧ Kd.V (Kd.int .u64) 22 w' w.heap.size (fun k_ => ((P0_3_ k_ ∨ w.heap.size ≤ k_) ∧ some k_ ≠ v4_.ownBlock)) v3_ l0_3 ∧ Kd.R (Kd.int .u64) 22 w' w.heap.size (fun _ => True) v4_ [] ∧ Below w.heap.size w w' := by
  have hu26 := Try.underlying26
  have HV := Kd.V_at hs0_3
  have HF := Aside0.mk (Kd.F_bound HV.2.2)
  have HC := Aside0.mk (Kd.F_now HV.2.2)
  have hcl : l0_3.length ≤ c0_3 := HV.2.1
  have hm : l0_3.length ≤ 9223372036854775807 := Kd.F_max HV.2.2
  have HS := Aside0.mk hs0_3
  clear hs0_3 HV
  refine callsIn_of_wp_marks Try.func12 rfl trivial ?_ rfl
  simp only [Try.ntmps12, List.size_toArray, List.length_cons, List.length_nil, Nat.reduceAdd, Nat.reduceSub, Array.replicate_succ, Array.replicate_zero, List.push_toArray, List.append_toArray, List.nil_append, List.cons_append]
  gi_wp2
  refine ⟨trivial, ?_⟩
  gi_wp2
  refine ⟨_, results_ctt rfl _ _ (w.heap.size + 1 + 1) 26 #[.bool true, .int .u64 a0_1, .int .u64 a0_2, .slice A0_3 l0_3.length c0_3] (0, 0) _ rfl (blk_alloc (blk_alloc (blk_new3 w _ _ _) _) _) Try.underlying26 rfl (by kernel_rfl), ?_⟩
  refine fin_refused (a0_1 := a0_1) (a0_2 := a0_2) HS.out ?_
  repeat (first | apply below_alloc | apply pw_below_drewN | (refine below_set ?_ (by first | omega | (simp; done) | (simp; omega))))
  exact Below.refl _ _

set_option maxHeartbeats 16000000 in
set_option maxRecDepth 100000 in
theorem seq_Confirm.e_true_notin (a0_1 : Int) (a0_2 : Int) (P0_3_ : Nat → Prop) (A0_3 : Option Addr) (c0_3 : Nat) (l0_3 : List Int) (a1 : Int) (hz : (a1 == 0) = false) (hz' : ¬ a1 = 0) (top : Int) (htop_ : IntKind.u64.wrap (a1 - a0_2) = top) (w : World) (hs0_3 : Kd.V (Kd.int .u64) 22 w w.heap.size (fun k_ => P0_3_ k_) (.slice A0_3 l0_3.length c0_3) l0_3) (hle : ¬ a1 ≤ a0_2) (hin : decide (top ∈ l0_3) = false) :
    CallsIn Fence.wide 5 Try.prog 12 #[.agg #[.bool true, .int .u64 a0_1, .int .u64 a0_2, .slice A0_3 l0_3.length c0_3], .int .u64 a1, .bool true] w fun e w' => ∃ v3_ v4_ : Value, e = .returned (.tuple #[.agg #[.bool true, .int .u64 a0_1, .int .u64 a0_2, v3_], v4_, .int .i64 16]) ∧ Kd.V (Kd.int .u64) 22 w' w.heap.size (fun k_ => ((P0_3_ k_ ∨ w.heap.size ≤ k_) ∧ some k_ ≠ v4_.ownBlock)) v3_ l0_3 ∧ Kd.R (Kd.int .u64) 22 w' w.heap.size (fun _ => True) v4_ [] ∧ Below w.heap.size w w' := by
  have hu26 := Try.underlying26
  have HV := Kd.V_at hs0_3
  have HF := Aside0.mk (Kd.F_bound HV.2.2)
  have HC := Aside0.mk (Kd.F_now HV.2.2)
  have hcl : l0_3.length ≤ c0_3 := HV.2.1
  have hm : l0_3.length ≤ 9223372036854775807 := Kd.F_max HV.2.2
  have HS := Aside0.mk hs0_3
  clear hs0_3 HV
  have HT := Aside0.mk (contains_mem l0_3 top hm (l0_3.length + 1) (by omega))
  rw [hin] at HT
  refine callsIn_of_wp_marks Try.func12 rfl trivial ?_ rfl
  simp only [Try.ntmps12, List.size_toArray, List.length_cons, List.length_nil, Nat.reduceAdd, Nat.reduceSub, Array.replicate_succ, Array.replicate_zero, List.push_toArray, List.append_toArray, List.nil_append, List.cons_append]
  gi_wp2_with (refine ⟨trivial, ?_⟩; gi_at_call 17; refine (callsIn_wide.2 (slices_Contains_uint64_uint64.calls (l0_3.length + 1) A0_3 c0_3 l0_3 top _ _ (Kd.C_below HC.out (by (repeat (apply below_alloc)); exact Below.refl _ _)) hcl HT.out)).mono ?_; rintro e w' ⟨rfl, ⟨nd, rfl⟩⟩)
  refine ⟨_, results_ctt rfl _ _ (w.heap.size + 1 + 1) 26 #[.bool true, .int .u64 a0_1, .int .u64 a0_2, .slice A0_3 l0_3.length c0_3] (0, 0) _ rfl (by (with_reducible repeat (first | refine blk_drewN ?_ _ | refine blk_drew ?_)); refine blk_put (cs := #[.bool true, .int .u64 a0_1, .int .u64 a0_2, .slice none 0 0]) ?_ 3 _ rfl; (with_reducible repeat (first | refine blk_drewN ?_ _ | refine blk_drew ?_)); refine blk_put (cs := #[.bool true, .int .u64 a0_1, .int .u64 0, .slice none 0 0]) ?_ 2 _ rfl; (with_reducible repeat (first | refine blk_drewN ?_ _ | refine blk_drew ?_)); refine blk_put (cs := #[.bool true, .int .u64 0, .int .u64 0, .slice none 0 0]) ?_ 1 _ rfl; (with_reducible repeat (first | refine blk_drewN ?_ _ | refine blk_drew ?_)); refine blk_put (cs := #[.bool false, .int .u64 0, .int .u64 0, .slice none 0 0]) ?_ 0 _ rfl; (with_reducible repeat (first | refine blk_drewN ?_ _ | refine blk_drew ?_)); exact blk_alloc (blk_alloc (blk_new3 w _ _ _) _) _) Try.underlying26 rfl (by kernel_rfl), ?_⟩
  refine fin_refused (a0_1 := a0_1) (a0_2 := a0_2) HS.out ?_
  repeat (first | apply below_alloc | apply pw_below_drewN | (refine below_set ?_ (by first | omega | (simp; done) | (simp; omega))))
  exact Below.refl _ _

set_option maxHeartbeats 16000000 in
set_option maxRecDepth 100000 in
theorem seq_Confirm.e_false_off (a0_1 : Int) (a0_2 : Int) (P0_3_ : Nat → Prop) (A0_3 : Option Addr) (c0_3 : Nat) (l0_3 : List Int) (a1 : Int) (top : Int) (htop_ : IntKind.u64.wrap (a1 - a0_2) = top) (w : World) (hs0_3 : Kd.V (Kd.int .u64) 22 w w.heap.size (fun k_ => P0_3_ k_) (.slice A0_3 l0_3.length c0_3) l0_3) :
    CallsIn Fence.wide 5 Try.prog 12 #[.agg #[.bool false, .int .u64 a0_1, .int .u64 a0_2, .slice A0_3 l0_3.length c0_3], .int .u64 a1, .bool false] w fun e w' => ∃ v3_ v4_ : Value, e = .returned (.tuple #[.agg #[.bool false, .int .u64 a0_1, .int .u64 a0_2, v3_], v4_, .int .i64 16]) ∧ Kd.V (Kd.int .u64) 22 w' w.heap.size (fun k_ => ((P0_3_ k_ ∨ w.heap.size ≤ k_) ∧ some k_ ≠ v4_.ownBlock)) v3_ l0_3 ∧ Kd.R (Kd.int .u64) 22 w' w.heap.size (fun _ => True) v4_ [] ∧ Below w.heap.size w w' := by
  have hu26 := Try.underlying26
  have HV := Kd.V_at hs0_3
  have HF := Aside0.mk (Kd.F_bound HV.2.2)
  have HC := Aside0.mk (Kd.F_now HV.2.2)
  have hcl : l0_3.length ≤ c0_3 := HV.2.1
  have hm : l0_3.length ≤ 9223372036854775807 := Kd.F_max HV.2.2
  have HS := Aside0.mk hs0_3
  clear hs0_3 HV
  refine callsIn_of_wp_marks Try.func12 rfl trivial ?_ rfl
  simp only [Try.ntmps12, List.size_toArray, List.length_cons, List.length_nil, Nat.reduceAdd, Nat.reduceSub, Array.replicate_succ, Array.replicate_zero, List.push_toArray, List.append_toArray, List.nil_append, List.cons_append]
  gi_wp2
  refine ⟨trivial, ?_⟩
  gi_wp2
  refine ⟨_, results_ctt rfl _ _ (w.heap.size + 1 + 1) 26 #[.bool false, .int .u64 a0_1, .int .u64 a0_2, .slice A0_3 l0_3.length c0_3] (0, 0) _ rfl (blk_alloc (blk_alloc (blk_new3 w _ _ _) _) _) Try.underlying26 rfl (by kernel_rfl), ?_⟩
  refine fin_refused (a0_1 := a0_1) (a0_2 := a0_2) HS.out ?_
  repeat (first | apply below_alloc | apply pw_below_drewN | (refine below_set ?_ (by first | omega | (simp; done) | (simp; omega))))
  exact Below.refl _ _

set_option maxHeartbeats 16000000 in
set_option maxRecDepth 100000 in
theorem seq_Confirm.e_false_le (a0_1 : Int) (a0_2 : Int) (P0_3_ : Nat → Prop) (A0_3 : Option Addr) (c0_3 : Nat) (l0_3 : List Int) (a1 : Int) (top : Int) (htop_ : IntKind.u64.wrap (a1 - a0_2) = top) (w : World) (hs0_3 : Kd.V (Kd.int .u64) 22 w w.heap.size (fun k_ => P0_3_ k_) (.slice A0_3 l0_3.length c0_3) l0_3) (hle : a1 ≤ a0_2) :
    CallsIn Fence.wide 5 Try.prog 12 #[.agg #[.bool true, .int .u64 a0_1, .int .u64 a0_2, .slice A0_3 l0_3.length c0_3], .int .u64 a1, .bool false] w fun e w' => ∃ v3_ v4_ : Value, e = .returned (.tuple #[.agg #[.bool true, .int .u64 a0_1, .int .u64 a0_2, v3_], v4_, .int .i64 16]) ∧ Kd.V (Kd.int .u64) 22 w' w.heap.size (fun k_ => ((P0_3_ k_ ∨ w.heap.size ≤ k_) ∧ some k_ ≠ v4_.ownBlock)) v3_ l0_3 ∧ Kd.R (Kd.int .u64) 22 w' w.heap.size (fun _ => True) v4_ [] ∧ Below w.heap.size w w' := by
  have hu26 := Try.underlying26
  have HV := Kd.V_at hs0_3
  have HF := Aside0.mk (Kd.F_bound HV.2.2)
  have HC := Aside0.mk (Kd.F_now HV.2.2)
  have hcl : l0_3.length ≤ c0_3 := HV.2.1
  have hm : l0_3.length ≤ 9223372036854775807 := Kd.F_max HV.2.2
  have HS := Aside0.mk hs0_3
  clear hs0_3 HV
  refine callsIn_of_wp_marks Try.func12 rfl trivial ?_ rfl
  simp only [Try.ntmps12, List.size_toArray, List.length_cons, List.length_nil, Nat.reduceAdd, Nat.reduceSub, Array.replicate_succ, Array.replicate_zero, List.push_toArray, List.append_toArray, List.nil_append, List.cons_append]
  gi_wp2
  refine ⟨trivial, ?_⟩
  gi_wp2
  refine ⟨_, results_ctt rfl _ _ (w.heap.size + 1 + 1) 26 #[.bool true, .int .u64 a0_1, .int .u64 a0_2, .slice A0_3 l0_3.length c0_3] (0, 0) _ rfl (blk_alloc (blk_alloc (blk_new3 w _ _ _) _) _) Try.underlying26 rfl (by kernel_rfl), ?_⟩
  refine fin_refused (a0_1 := a0_1) (a0_2 := a0_2) HS.out ?_
  repeat (first | apply below_alloc | apply pw_below_drewN | (refine below_set ?_ (by first | omega | (simp; done) | (simp; omega))))
  exact Below.refl _ _

set_option maxHeartbeats 16000000 in
set_option maxRecDepth 100000 in
theorem seq_Confirm.e_false_notin (a0_1 : Int) (a0_2 : Int) (P0_3_ : Nat → Prop) (A0_3 : Option Addr) (c0_3 : Nat) (l0_3 : List Int) (a1 : Int) (top : Int) (htop_ : IntKind.u64.wrap (a1 - a0_2) = top) (w : World) (hs0_3 : Kd.V (Kd.int .u64) 22 w w.heap.size (fun k_ => P0_3_ k_) (.slice A0_3 l0_3.length c0_3) l0_3) (hle : ¬ a1 ≤ a0_2) (hin : decide (top ∈ l0_3) = false) :
    CallsIn Fence.wide 5 Try.prog 12 #[.agg #[.bool true, .int .u64 a0_1, .int .u64 a0_2, .slice A0_3 l0_3.length c0_3], .int .u64 a1, .bool false] w fun e w' => ∃ v3_ v4_ : Value, e = .returned (.tuple #[.agg #[.bool true, .int .u64 a0_1, .int .u64 a0_2, v3_], v4_, .int .i64 16]) ∧ Kd.V (Kd.int .u64) 22 w' w.heap.size (fun k_ => ((P0_3_ k_ ∨ w.heap.size ≤ k_) ∧ some k_ ≠ v4_.ownBlock)) v3_ l0_3 ∧ Kd.R (Kd.int .u64) 22 w' w.heap.size (fun _ => True) v4_ [] ∧ Below w.heap.size w w' := by
  have hu26 := Try.underlying26
  have HV := Kd.V_at hs0_3
  have HF := Aside0.mk (Kd.F_bound HV.2.2)
  have HC := Aside0.mk (Kd.F_now HV.2.2)
  have hcl : l0_3.length ≤ c0_3 := HV.2.1
  have hm : l0_3.length ≤ 9223372036854775807 := Kd.F_max HV.2.2
  have HS := Aside0.mk hs0_3
  clear hs0_3 HV
  have HT := Aside0.mk (contains_mem l0_3 top hm (l0_3.length + 1) (by omega))
  rw [hin] at HT
  refine callsIn_of_wp_marks Try.func12 rfl trivial ?_ rfl
  simp only [Try.ntmps12, List.size_toArray, List.length_cons, List.length_nil, Nat.reduceAdd, Nat.reduceSub, Array.replicate_succ, Array.replicate_zero, List.push_toArray, List.append_toArray, List.nil_append, List.cons_append]
  gi_wp2_with (refine ⟨trivial, ?_⟩; gi_at_call 17; refine (callsIn_wide.2 (slices_Contains_uint64_uint64.calls (l0_3.length + 1) A0_3 c0_3 l0_3 top _ _ (Kd.C_below HC.out (by (repeat (apply below_alloc)); exact Below.refl _ _)) hcl HT.out)).mono ?_; rintro e w' ⟨rfl, ⟨nd, rfl⟩⟩)
  refine ⟨_, results_ctt rfl _ _ (w.heap.size + 1 + 1) 26 #[.bool true, .int .u64 a0_1, .int .u64 a0_2, .slice A0_3 l0_3.length c0_3] (0, 0) _ rfl (by (with_reducible repeat (first | refine blk_drewN ?_ _ | refine blk_drew ?_)); refine blk_put (cs := #[.bool true, .int .u64 a0_1, .int .u64 a0_2, .slice none 0 0]) ?_ 3 _ rfl; (with_reducible repeat (first | refine blk_drewN ?_ _ | refine blk_drew ?_)); refine blk_put (cs := #[.bool true, .int .u64 a0_1, .int .u64 0, .slice none 0 0]) ?_ 2 _ rfl; (with_reducible repeat (first | refine blk_drewN ?_ _ | refine blk_drew ?_)); refine blk_put (cs := #[.bool true, .int .u64 0, .int .u64 0, .slice none 0 0]) ?_ 1 _ rfl; (with_reducible repeat (first | refine blk_drewN ?_ _ | refine blk_drew ?_)); refine blk_put (cs := #[.bool false, .int .u64 0, .int .u64 0, .slice none 0 0]) ?_ 0 _ rfl; (with_reducible repeat (first | refine blk_drewN ?_ _ | refine blk_drew ?_)); exact blk_alloc (blk_alloc (blk_new3 w _ _ _) _) _) Try.underlying26 rfl (by kernel_rfl), ?_⟩
  refine fin_refused (a0_1 := a0_1) (a0_2 := a0_2) HS.out ?_
  repeat (first | apply below_alloc | apply pw_below_drewN | (refine below_set ?_ (by first | omega | (simp; done) | (simp; omega))))
  exact Below.refl _ _
end Go.Proofs.Ytngbkagamhakiaa.Q
