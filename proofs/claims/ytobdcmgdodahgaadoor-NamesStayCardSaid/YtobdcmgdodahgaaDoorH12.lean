/- names.Drop: what it computes, and that its call does so. -/
import Derived.Test.YtobdcmgdodahgaaDoorH20
namespace Go.Proofs.YtobdcmgdodahgaaDoor.Q
open Go.RowKit Go.Proofs.YtobdcmgdodahgaaDoorW.PrintWords Go.Proofs.YtobdcmgdodahgaaDoorW.PrintLast Go.Proofs.YtobdcmgdodahgaaDoorW.PrintMore
set_option linter.unusedVariables false
set_option linter.unusedSimpArgs false

def dropL (m : ByteArray) (l : List S31) : List S31 := l.filter fun x => !mineP m x
def names_Drop.f (a0_0 a0_1 : Int) (l0_2 : List S31) (a1 : ByteArray) : Option (Int × Int × List S31 × Bool) :=
  if l0_2.length ≤ 3518437208880 then some (a0_0, a0_1, dropL a1 l0_2, decide ((dropL a1 l0_2).length < l0_2.length)) else none

set_option maxHeartbeats 8000000 in
set_option maxRecDepth 100000 in
theorem names_Drop.calls (a0_0 a0_1 : Int) (A0_2 : Option Addr) (c0_2 : Nat) (l0_2 : List S31) (a1 : ByteArray) (r1 r2 : Int) (r3 : List S31) (r4 : Bool) (w : World) (hr0_2 : Kd.C k31 w A0_2 l0_2.length l0_2) (hc0_2 : l0_2.length ≤ c0_2) (h : names_Drop.f a0_0 a0_1 l0_2 a1 = some (r1, r2, r3, r4)) :
    Calls Tryd.prog 12 #[.agg #[.int .i64 a0_0, .int .u64 a0_1, .slice A0_2 l0_2.length c0_2], .string a1] w fun e w' => ∃ v2_ : Value, e = .returned (.tuple #[.agg #[.int .i64 r1, .int .u64 r2, v2_], .bool r4]) ∧ Kd.R k31 31 w' w.heap.size (fun _ => True) v2_ r3 ∧ Below w.heap.size w w' := by
  have hu25 := Tryd.underlying25
  have hreach : l0_2.length ≤ 3518437208880 := by
    unfold names_Drop.f at h
    by_cases hr : l0_2.length ≤ 3518437208880
    · exact hr
    · rw [if_neg hr] at h; cases h
  unfold names_Drop.f at h
  rw [if_pos hreach] at h
  simp only [Option.some.injEq, Prod.mk.injEq] at h
  obtain ⟨rfl, rfl, rfl, rfl⟩ := h
  have hm : l0_2.length ≤ 9223372036854775807 := hr0_2.2.1
  have HCL := Aside0.mk (slices_Clone_20.calls A0_2 c0_2 l0_2 (((w.alloc (.cells #[.int .i64 a0_0, .int .u64 a0_1, .slice A0_2 l0_2.length c0_2] 25)).alloc (.cells #[.string a1] 9)).alloc (.cells #[.int .i64 0, .int .u64 0, .slice none 0 0] 25)) (Kd.C_alloc (Kd.C_alloc (Kd.C_alloc hr0_2 _) _) _) hreach)
  have HB3 : Aside0 (Below w.heap.size w (((w.alloc (.cells #[.int .i64 a0_0, .int .u64 a0_1, .slice A0_2 l0_2.length c0_2] 25)).alloc (.cells #[.string a1] 9)).alloc (.cells #[.int .i64 0, .int .u64 0, .slice none 0 0] 25))) := ⟨below_alloc (below_alloc (below_alloc (Below.refl _ _) _) _) _⟩
  have HK0 : Aside0 ((((w.alloc (.cells #[.int .i64 a0_0, .int .u64 a0_1, .slice A0_2 l0_2.length c0_2] 25)).alloc (.cells #[.string a1] 9)).alloc (.cells #[.int .i64 0, .int .u64 0, .slice none 0 0] 25)).heap[w.heap.size]? = some (.cells #[.int .i64 a0_0, .int .u64 a0_1, .slice A0_2 l0_2.length c0_2] 25 (0, 0))) := ⟨blk_alloc (blk_alloc (blk_new _ _) _) _⟩
  have HK1 : Aside0 ((((w.alloc (.cells #[.int .i64 a0_0, .int .u64 a0_1, .slice A0_2 l0_2.length c0_2] 25)).alloc (.cells #[.string a1] 9)).alloc (.cells #[.int .i64 0, .int .u64 0, .slice none 0 0] 25)).heap[w.heap.size + 1]? = some (.cells #[.string a1] 9 (0, 0))) := ⟨blk_alloc (by simpa using blk_new (w.alloc (.cells #[.int .i64 a0_0, .int .u64 a0_1, .slice A0_2 l0_2.length c0_2] 25)) (.cells #[.string a1] 9)) _⟩
  have HK2 : Aside0 ((((w.alloc (.cells #[.int .i64 a0_0, .int .u64 a0_1, .slice A0_2 l0_2.length c0_2] 25)).alloc (.cells #[.string a1] 9)).alloc (.cells #[.int .i64 0, .int .u64 0, .slice none 0 0] 25)).heap[w.heap.size + 1 + 1]? = some (.cells #[.int .i64 0, .int .u64 0, .slice none 0 0] 25 (0, 0))) := ⟨by simpa using blk_new ((w.alloc (.cells #[.int .i64 a0_0, .int .u64 a0_1, .slice A0_2 l0_2.length c0_2] 25)).alloc (.cells #[.string a1] 9)) (.cells #[.int .i64 0, .int .u64 0, .slice none 0 0] 25)⟩
  have HSZ : Aside0 ((((w.alloc (.cells #[.int .i64 a0_0, .int .u64 a0_1, .slice A0_2 l0_2.length c0_2] 25)).alloc (.cells #[.string a1] 9)).alloc (.cells #[.int .i64 0, .int .u64 0, .slice none 0 0] 25)).heap.size = w.heap.size + 1 + 1 + 1) := ⟨by simp⟩
  clear hr0_2
  have hdl : (dropL a1 l0_2).length ≤ 9223372036854775807 := Nat.le_trans (List.length_filter_le _ _) hm
  have hlen := fun (x : Bool) => (0 : Nat)
  clear hlen
  go_enter Tryd.func12, Tryd.ntmps12
  go_wp2_with (first
    | (go_at_call 20; refine HCL.out.mono ?_; rintro e w1 ⟨v, rfl, hR, hb⟩; have HR1 := Aside0.mk hR; have HB1 := Aside0.mk hb; have k0 := Aside0.mk (blk_below HK0.out hb); have k1 := Aside0.mk (blk_below HK1.out hb); have k2 := Aside0.mk (blk_below HK2.out hb); clear hR hb)
    | (go_at_call 19; refine (slices_DeleteFunc.calls (mineP a1) 21 #[.pointer (some ⟨w.heap.size + 1, 0, none⟩)] eK21 (fun W => W.heap[w.heap.size + 1]? = some (.cells #[.string a1] 9 (0, 0))) v
        (fun W W' hsz hk hb => (hk _ (fun e => by have h1 := Kd.R_base HR1.out _ e.symm; have h2 := HSZ.out; omega) (blk_lt hb)).trans hb) (fun W x hb => Drop1.calls x.f0 x.f1 x.f2 a1 _ W ((blk_cell hb 0).trans rfl) (blk_lt hb)) _ _ l0_2 w1 HR1.out k1.out).mono ?_;
        rintro e w2 ⟨v2, rfl, hR2, hG⟩; have HR2 : Aside0 (Kd.R k31 31 w2 _ (fun _ => True) v2 (dropL a1 l0_2)) := ⟨hR2⟩; have HG := Aside0.mk hG; clear hR2 hG;
        have j0 : Aside0 (w2.heap[w.heap.size]? = some (.cells #[.int .i64 a0_0, .int .u64 a0_1, .slice A0_2 l0_2.length c0_2] 25 (0, 0))) := ⟨blk_grown k0.out HG.out (fun e => by have h1 := Kd.R_base HR1.out _ e.symm; have h2 := HSZ.out; omega)⟩;
        have j2 : Aside0 (w2.heap[w.heap.size + 1 + 1]? = some (.cells #[.int .i64 0, .int .u64 0, .slice none 0 0] 25 (0, 0))) := ⟨blk_grown k2.out HG.out (fun e => by have h1 := Kd.R_base HR1.out _ e.symm; have h2 := HSZ.out; omega)⟩;
        have HBW : Aside0 (Below w.heap.size w w2) := ⟨(HB3.out.trans (HB1.out.mono (by have h2 := HSZ.out; omega))).grown HG.out (by have h1 := HB1.out.size; have h2 := HSZ.out; omega) (fun k hk => by have h1 := Kd.R_base HR1.out k hk; have h2 := HSZ.out; omega)⟩;
        obtain ⟨A2, c2, rfl⟩ := Kd.R_slice HR2.out;
        have p2 : w2.cell? ⟨w.heap.size, 2, none⟩ = some (.slice A0_2 l0_2.length c0_2) := (blk_cell j0.out 2).trans rfl; have pf := fun k => blk_frozen j0.out k))
  generalize hw3 : w2.setCell ⟨w.heap.size, 2, none⟩ (.slice A2 (dropL a1 l0_2).length c2) = w3
  have i0 : Aside0 (w3.heap[w.heap.size]? = some (.cells #[.int .i64 a0_0, .int .u64 a0_1, .slice A2 (dropL a1 l0_2).length c2] 25 (0, 0))) := ⟨by rw [← hw3]; exact blk_put j0.out 2 _ rfl⟩
  have i2 : Aside0 (w3.heap[w.heap.size + 1 + 1]? = some (.cells #[.int .i64 0, .int .u64 0, .slice none 0 0] 25 (0, 0))) := ⟨by rw [← hw3]; exact blk_far (p := ⟨w.heap.size, 2, none⟩) j2.out (by show w.heap.size + 1 + 1 ≠ w.heap.size; omega) _⟩
  have HB3' : Aside0 (Below w.heap.size w w3) := ⟨by rw [← hw3]; exact below_set HBW.out (Nat.le_refl _)⟩
  have HR3 : Aside0 (Kd.R k31 31 w3 w.heap.size (fun _ => True) (.slice A2 (dropL a1 l0_2).length c2) (dropL a1 l0_2)) := ⟨by rw [← hw3]; exact Kd.R_lower (Kd.R_set HR2.out j0.out (by decide) 2 _) (by have h2 := HSZ.out; omega)⟩
  clear hw3 HBW HB1 HG p2 pf j0 j2 k0 k1 k2 HR1 HR2 HK0 HK1 HK2 HB3 HCL HSZ
  have s0 : w3.cell? ⟨w.heap.size, 0, none⟩ = some (.int .i64 a0_0) := (blk_cell i0.out 0).trans rfl
  have s1 : w3.cell? ⟨w.heap.size, 1, none⟩ = some (.int .u64 a0_1) := (blk_cell i0.out 1).trans rfl
  have s2 : w3.cell? ⟨w.heap.size, 2, none⟩ = some (.slice A2 (dropL a1 l0_2).length c2) := (blk_cell i0.out 2).trans rfl
  have n2 : w.heap.size + 1 + 1 ≠ w.heap.size := by omega
  have n2' := n2.symm
  have t0 : w3.cell? ⟨w.heap.size + 1 + 1, 0, none⟩ = some (.int .i64 0) := (blk_cell i2.out 0).trans rfl
  have t1 : w3.cell? ⟨w.heap.size + 1 + 1, 1, none⟩ = some (.int .u64 0) := (blk_cell i2.out 1).trans rfl
  have t2 : w3.cell? ⟨w.heap.size + 1 + 1, 2, none⟩ = some (.slice none 0 0) := (blk_cell i2.out 2).trans rfl
  have tf := fun k => blk_frozen i2.out k
  go_region_held3 (fun w' => w'.cell? ⟨w.heap.size, 0, none⟩ = some (.int .i64 a0_0) ∧ w'.cell? ⟨w.heap.size, 1, none⟩ = some (.int .u64 a0_1) ∧ w'.cell? ⟨w.heap.size, 2, none⟩ = some (.slice A2 (dropL a1 l0_2).length c2))
    (go_keep)
    (fail)
  all_goals go_wp2
  all_goals (
    have q0 := blk_put i2.out 0 (.int .i64 a0_0) rfl
    have q1 := blk_put q0 1 (.int .u64 a0_1) rfl
    have q2 := blk_put q1 2 (.slice A2 (dropL a1 l0_2).length c2) rfl
    refine bodyPost_ret (results_ct rfl _ _ (w.heap.size + 1 + 1) 25 #[.int .i64 a0_0, .int .u64 a0_1, .slice A2 (dropL a1 l0_2).length c2] (0, 0) _ rfl q2 Tryd.underlying25 rfl (by kernel_rfl)) rfl ?_
    exact ⟨_, rfl, Kd.R_drew (Kd.R_set (Kd.R_set (Kd.R_set HR3.out i2.out (by decide) 0 _) q0 (by decide) 1 _) q1 (by decide) 2 _), below_drew1 (below_set (below_set (below_set HB3'.out (by show w.heap.size ≤ w.heap.size + 1 + 1; omega)) (by show w.heap.size ≤ w.heap.size + 1 + 1; omega)) (by show w.heap.size ≤ w.heap.size + 1 + 1; omega))⟩)
end Go.Proofs.YtobdcmgdodahgaaDoor.Q
