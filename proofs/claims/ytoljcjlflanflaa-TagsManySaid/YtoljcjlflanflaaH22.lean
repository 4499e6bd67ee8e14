/- tags.place: what it computes, and that its call does so. -/
import Derived.Test.YtoljcjlflanflaaQ0
import Derived.Test.YtoljcjlflanflaaC
import Derived.WalkSpells
namespace Go.Proofs.Ytoljcjlflanflaa.Q
open Go.RowKit Go.Proofs.YtoljcjlflanflaaW.PrintWords Go.Proofs.YtoljcjlflanflaaW.PrintLast Go.Proofs.YtoljcjlflanflaaW.PrintMore
set_option linter.unusedVariables false
set_option linter.unusedSimpArgs false

theorem u64_wrap (x : Int) : IntKind.u64.wrap x = x % 18446744073709551616 := by simp [IntKind.wrap, IntKind.bits, IntKind.signed]
theorem mid_eq {i j h : Nat} (hij : i < j) (hj : j ≤ 9223372036854775807) (hh : (i + j) / 2 = h) : wrap64 (IntKind.u64.wrap (wrap64 ((i : Int) + (j : Int))) / 2) = (h : Int) := by
  rw [u64_wrap]
  unfold wrap64
  omega
theorem Flat.k47 : Flat k47 := Flat.iso (Flat.pair (Flat.int _) (Flat.int _)) _

/-- The search by halves: from i to j, with k steps left. -/
def bsF (l : List S47) (n : Int) : Nat → Nat → Nat → Nat
  | 0, i, _ => i
  | k + 1, i, j => if i < j then (if ((l[(i + j) / 2]?.map (·.f0)).getD 0) < n then bsF l n k ((i + j) / 2 + 1) j else bsF l n k i ((i + j) / 2)) else i
def bsI (l : List S47) (n : Int) : Nat := bsF l n (l.length + 1) 0 l.length
def cmpT (x : S47) (n : Int) : Int := if x.f0 < n then -1 else if n < x.f0 then 1 else 0
def placeIs (l : List S47) (n : Int) : Bool := decide (bsI l n < l.length) && (((l[bsI l n]?.map (·.f0)).getD 0) == n)

set_option maxHeartbeats 8000000 in
set_option maxRecDepth 100000 in
theorem tags_place1.calls (x : S47) (n : Int) (w : World) :
    Calls Try.prog 23 #[.agg #[.int .u64 x.f0, .int .u64 x.f1], .int .u64 n] w fun e w' => e = .returned (.int .i64 (cmpT x n)) ∧ Below w.heap.size w w' := by
  have hu47 := Try.underlying47
  unfold cmpT
  obtain ⟨x0, x1⟩ := x
  simp only
  by_cases c1 : x0 < n
  · rw [if_pos c1]
    go_enter Try.func23, Try.ntmps23
    go_wp2
    go_ret
    exact ⟨rfl, below_alloc (Below.refl _ _) _⟩
  · rw [if_neg c1]
    by_cases c2 : n < x0
    · rw [if_pos c2]
      go_enter Try.func23, Try.ntmps23
      go_wp2
      go_ret
      exact ⟨rfl, below_alloc (Below.refl _ _) _⟩
    · rw [if_neg c2]
      go_enter Try.func23, Try.ntmps23
      go_wp2
      go_ret
      exact ⟨rfl, below_alloc (Below.refl _ _) _⟩

set_option maxHeartbeats 8000000 in
set_option maxRecDepth 100000 in
theorem slices_BinarySearchFunc.calls (A0 : Option Addr) (c0 : Nat) (l0 : List S47) (n : Int) (w : World) (hC : Kd.C k47 w A0 l0.length l0) :
    Calls Try.prog 22 #[.slice A0 l0.length c0, .int .u64 n, .func (.func 23) #[] #[]] w fun e w' => e = .returned (.tuple #[.int .i64 (bsI l0 n : Int), .bool (placeIs l0 n)]) ∧ Below w.heap.size w w' := by
  have hm : l0.length ≤ 9223372036854775807 := hC.2.1
  have hu47 := Try.underlying47
  have HC := Aside0.mk hC
  clear hC
  go_enter Try.func22, Try.ntmps22
  go_wp2
  go_loopg [9, 10] (l0.length + 1) (fun gg v9 v10 wr => ∃ i j k : Nat, v9 = .int .i64 i ∧ v10 = .int .i64 j ∧ i ≤ j ∧ j ≤ l0.length ∧ k ≤ gg ∧ j - i < k ∧ Aside0 (bsF l0 n k i j = bsI l0 n) ∧ Aside0 (Below w.heap.size w wr))
  case atStart => exact ⟨0, l0.length, l0.length + 1, rfl, rfl, by omega, by omega, by omega, by omega, ⟨rfl⟩, ⟨Below.refl _ _⟩⟩
  case round =>
    obtain ⟨i, j, k, rfl, rfl, hij, hj, hk, hd, HB, HW⟩ := hrel
    obtain ⟨k, rfl⟩ : ∃ q, k = q + 1 := ⟨k - 1, by omega⟩
    by_cases hlt : i < j
    · have hltz : (i : Int) < (j : Int) := by omega
      obtain ⟨h, hh⟩ : ∃ h, (i + j) / 2 = h := ⟨_, rfl⟩
      have hhz : wrap64 (IntKind.u64.wrap (wrap64 ((i : Int) + (j : Int))) / 2) = (h : Int) := mid_eq hlt (by omega) hh
      have hh0 : (0 : Int) ≤ (h : Int) := by omega
      have hh1 : (h : Int) < (l0.length : Int) := by omega
      obtain ⟨ad, e1, hx0, hx1⟩ := at_T47 (Kd.C_below HC.out HW.out) (h : Int) hh0 hh1
      cases e1
      have hlt' : h < l0.length := by omega
      have hB2 := HB.out
      simp only [bsF] at hB2
      rw [if_pos hlt, hh, List.getElem?_eq_getElem hlt'] at hB2
      rw [show rd_T47 l0 (h : Int) = l0[h] by simp [rd_T47, hlt'], Int.toNat_natCast] at hx0 hx1
      generalize hy : l0[h] = y at hx0 hx1 hB2
      have hcall := tags_place1.calls y n wr
      by_cases hc : y.f0 < n
      · have e2 : cmpT y n = -1 := by unfold cmpT; rw [if_pos hc]
        rw [e2] at hcall
        simp only [Option.map_some, Option.getD_some] at hB2
        rw [if_pos hc] at hB2
        have HK := Aside0.mk hcall
        have HB3 := Aside0.mk hB2
        clear hcall hB2 HB
        go_wp2_with (go_at_call 23; refine HK.out.mono ?_; rintro e w' ⟨rfl, hb⟩)
        go_roundg k
        case measure => omega
        case rel => exact ⟨h + 1, j, k, by go_num, rfl, by omega, by omega, by omega, by omega, HB3, ⟨HW.out.trans (hb.mono HW.out.size)⟩⟩
      · have e2 : cmpT y n = 0 ∨ cmpT y n = 1 := by unfold cmpT; rw [if_neg hc]; split <;> simp
        obtain ⟨cv, hcv⟩ : ∃ cv, cmpT y n = cv := ⟨_, rfl⟩
        rw [hcv] at hcall e2
        have hcn : ¬ cv < 0 := by omega
        simp only [Option.map_some, Option.getD_some] at hB2
        rw [if_neg hc] at hB2
        have HK := Aside0.mk hcall
        have HB3 := Aside0.mk hB2
        clear hcall hB2 HB
        go_wp2_with (go_at_call 23; refine HK.out.mono ?_; rintro e w' ⟨rfl, hb⟩)
        go_roundg k
        case measure => omega
        case rel => exact ⟨i, h, k, rfl, rfl, by omega, by omega, by omega, by omega, HB3, ⟨HW.out.trans (hb.mono HW.out.size)⟩⟩
    · obtain rfl : i = j := by omega
      have hB2 := HB.out
      simp only [bsF] at hB2
      rw [if_neg (by omega)] at hB2
      have hltz : ¬ (i : Int) < (i : Int) := by omega
      by_cases hin : i < l0.length
      · have hinz : (i : Int) < (l0.length : Int) := by omega
        have hh0 : (0 : Int) ≤ (i : Int) := by omega
        obtain ⟨ad, e1, hx0, hx1⟩ := at_T47 (Kd.C_below HC.out HW.out) (i : Int) hh0 hinz
        cases e1
        have hpl : placeIs l0 n = (l0[i].f0 == n) := by
          unfold placeIs
          rw [← hB2, List.getElem?_eq_getElem hin]
          simp [hin]
        rw [show rd_T47 l0 (i : Int) = l0[i] by simp [rd_T47, hin], Int.toNat_natCast] at hx0 hx1
        generalize hy : l0[i] = y at hx0 hx1 hpl
        have hcall := tags_place1.calls y n wr
        obtain ⟨cv, hcv⟩ : ∃ cv, cmpT y n = cv := ⟨_, rfl⟩
        rw [hcv] at hcall
        by_cases he : y.f0 = n
        · have e2 : cv = 0 := by rw [← hcv]; unfold cmpT; rw [if_neg (by omega), if_neg (by omega)]
          subst e2
          have HK := Aside0.mk hcall
          have HP := Aside0.mk (show placeIs l0 n = true by rw [hpl]; exact beq_iff_eq.2 he)
          have HI := Aside0.mk hB2
          clear hcall hB2 HB hpl hcv he
          go_wp2_with (go_at_call 23; refine HK.out.mono ?_; rintro e w' ⟨rfl, hb⟩)
          go_ret2
          exact ⟨by rw [HP.out, ← HI.out] <;> rfl, HW.out.trans (hb.mono HW.out.size)⟩
        · have e2 : (cv == 0) = false := by
            rw [← hcv]; unfold cmpT
            by_cases h1 : y.f0 < n
            · rw [if_pos h1]; rfl
            · rw [if_neg h1, if_pos (by omega)]; rfl
          have HK := Aside0.mk hcall
          have HP := Aside0.mk (show placeIs l0 n = false by rw [hpl]; exact beq_eq_false_iff_ne.2 he)
          have HI := Aside0.mk hB2
          clear hcall hB2 HB hpl hcv he
          go_wp2_with (go_at_call 23; refine HK.out.mono ?_; rintro e w' ⟨rfl, hb⟩)
          go_ret2
          exact ⟨by rw [HP.out, ← HI.out] <;> rfl, HW.out.trans (hb.mono HW.out.size)⟩
      · have hinz : ¬ (i : Int) < (l0.length : Int) := by omega
        have HP := Aside0.mk (show placeIs l0 n = false by unfold placeIs; rw [← hB2]; simp [hin])
        have HI := Aside0.mk hB2
        clear hB2 HB
        go_wp2
        go_ret2
        exact ⟨by rw [HP.out, ← HI.out] <;> rfl, HW.out⟩

set_option maxHeartbeats 8000000 in
set_option maxRecDepth 100000 in
theorem tags_place.calls (a0_0 a0_1 : Int) (A0_2 : Option Addr) (c0_2 : Nat) (l0_2 : List S47) (n : Int) (w : World) (hC : Kd.C k47 w A0_2 l0_2.length l0_2) :
    Calls Try.prog 18 #[.agg #[.int .u64 a0_0, .int .u64 a0_1, .slice A0_2 l0_2.length c0_2], .int .u64 n] w fun e w' => e = .returned (.tuple #[.int .i64 (bsI l0_2 n : Int), .bool (placeIs l0_2 n)]) ∧ Below w.heap.size w w' := by
  have hu25 := Try.underlying25
  have HC := Aside0.mk hC
  clear hC
  go_enter Try.func18, Try.ntmps18
  go_wp2_with (first | ((with_reducible refine gate_dst (N := 2) rfl ?_); refine box_event ?hg (N := 2) ?hd (cs := #[.int .u64 a0_0, .int .u64 a0_1, .slice A0_2 l0_2.length c0_2]) (t := 25) ?hr ?_; (case hd => rfl); (case hg => rfl); (case hr => first | (go_simp; done) | (go_simp; rfl)); intro gb101 hg w4 hbox hb; clear hg; have hcz2 : w4.cell? ⟨gb101, 2, none⟩ = some (.slice A0_2 l0_2.length c0_2) := (blk_cell hbox 2).trans rfl; have HB := Aside0.mk hb; clear hbox hb) | (go_at_call 22; refine (slices_BinarySearchFunc.calls A0_2 c0_2 l0_2 n _ (Kd.C_below HC.out HB.out)).mono ?_; rintro e w' ⟨rfl, hb2⟩))
  go_ret2
  exact ⟨rfl, HB.out.trans (hb2.mono HB.out.size)⟩
end Go.Proofs.Ytoljcjlflanflaa.Q
