/- slices.IndexFunc at []api.Name, names.find, names.To, names.From and their closures: what they compute, and that their calls do so. -/
import Derived.Test.YtobdcmgdodahgaaDoorQ0
import Derived.Test.YtobdcmgdodahgaaDoorC
import Derived.WalkSpells
import Derived.WalkMore
import Derived.Shelf.Abstract
namespace Go.Proofs.YtobdcmgdodahgaaDoor.Q
open Go.RowKit Go.Proofs.YtobdcmgdodahgaaDoorW.PrintWords Go.Proofs.YtobdcmgdodahgaaDoorW.PrintLast Go.Proofs.YtobdcmgdodahgaaDoorW.PrintMore
set_option linter.unusedVariables false
set_option linter.unusedSimpArgs false

/-- The first place at which p holds, from k on; or -1. -/
def idxPF {α : Type} (p : α → Bool) : List α → Nat → Int
  | [], _ => -1
  | x :: r, k => if p x then (k : Int) else idxPF p r (k + 1)
def idxP {α : Type} (p : α → Bool) (l : List α) : Int := idxPF p l 0
theorem idxPF_all {α : Type} (p : α → Bool) : ∀ (l : List α) (k : Nat), (∀ x ∈ l, p x = false) → idxPF p l k = -1
  | [], _, _ => rfl
  | x :: r, k, h => by
    rw [idxPF, h x List.mem_cons_self]
    exact idxPF_all p r (k + 1) (fun y hy => h y (List.mem_cons_of_mem _ hy))
theorem idxPF_hit {α : Type} (p : α → Bool) : ∀ (l : List α) (k n : Nat) (hn : n < l.length), (∀ j (hj : j < n), p (l[j]'(by omega)) = false) → p l[n] = true → idxPF p l k = ((k + n : Nat) : Int)
  | [], _, n, hn, _, _ => absurd hn (Nat.not_lt_zero _)
  | x :: r, k, 0, _, _, ht => by
    have ht' : p x = true := ht
    rw [idxPF, if_pos ht']; rfl
  | x :: r, k, n + 1, hn, hf, ht => by
    have h0 : p x = false := hf 0 (by omega)
    rw [idxPF, h0]
    have := idxPF_hit p r (k + 1) n (by simpa using hn) (fun j hj => hf (j + 1) (by omega)) ht
    simp only [Bool.false_eq_true, if_false]
    rw [this]
    congr 1
    omega

set_option maxHeartbeats 8000000 in
set_option maxRecDepth 100000 in
theorem slices_IndexFunc.calls (A : Option Addr) (c : Nat) (l : List S31) (km : Nat) (cap : Array Value) (p : S31 → Bool) (w : World) (hC : Kd.C k31 w A l.length l)
    (eK : ∀ args w, (callFunc km args).run Tryd.prog w = .ok (.enter km args) w)
    (hmay : ∀ (X : World) (x : S31), (∀ k, k < w.heap.size → X.heap[k]? = w.heap[k]?) → Calls Tryd.prog km (#[.agg #[.string x.f0, .string x.f1, .bool x.f2]] ++ cap) X fun e w' => e = .returned (.bool (p x)) ∧ Below X.heap.size X w') :
    Calls Tryd.prog 29 #[.slice A l.length c, .func (.func km) #[] cap] w fun e w' => e = .returned (.int .i64 (idxP p l)) ∧ Below w.heap.size w w' := by
  have hm : l.length ≤ 9223372036854775807 := hC.2.1
  have HC := Aside0.mk hC
  have HM := Aside0.mk hmay
  clear hC hmay
  go_enter Tryd.func29, Tryd.ntmps29
  go_wp2
  go_loopg [8] l.length (fun gg v8 wr => ∃ n : Nat, n ≤ l.length ∧ l.length - n ≤ gg ∧ v8 = .int .i64 n ∧ Aside0 (∀ j (h : j < l.length), j < n → p l[j] = false) ∧ Aside0 (Below w.heap.size w wr))
  case atStart => exact ⟨0, Nat.zero_le _, by omega, rfl, ⟨fun j _ h => absurd h (Nat.not_lt_zero _)⟩, ⟨Below.refl _ _⟩⟩
  case round =>
    obtain ⟨n, hn, hg, rfl, HF, HB⟩ := hrel
    by_cases hlt : n < l.length
    · have hltz : (n : Int) < (l.length : Int) := by omega
      obtain ⟨ad, e1, hx0, hx1, hx2⟩ := at_T31 (Kd.C_below HC.out HB.out) (n : Int) (by omega) hltz
      cases e1
      rw [show rd_T31 l (n : Int) = l[n] by simp [rd_T31, hlt], Int.toNat_natCast] at hx0 hx1 hx2
      have hcall := HM.out wr l[n] (fun k hk => HB.out.block k hk)
      have hne0 : (0 : Int) ≤ (n : Int) := by omega
      generalize hy : l[n] = y at hx0 hx1 hx2 hcall
      have HY := Aside0.mk hy
      clear hy
      cases hq : p y with
      | true =>
        rw [hq] at hcall
        have HK := Aside0.mk hcall
        have HQ := Aside0.mk hq
        clear hcall hq
        go_wp2_with (go_at_fn km; refine HK.out.mono ?_; rintro e w' ⟨rfl, hb⟩; have HB2 := Aside0.mk (HB.out.trans (hb.mono HB.out.size)); clear hb)
        go_ret
        refine ⟨?_, HB2.out⟩
        have e1 : idxP p l = (n : Int) := by
          unfold idxP
          rw [idxPF_hit p l 0 n hlt (fun j hj => HF.out j (by omega) hj) (by rw [HY.out]; exact HQ.out)]
          omega
        simp only [e1]
        rfl
      | false =>
        rw [hq] at hcall
        have HK := Aside0.mk hcall
        have HQ := Aside0.mk hq
        clear hcall hq
        go_wp2_with (go_at_fn km; refine HK.out.mono ?_; rintro e w' ⟨rfl, hb⟩; have HB2 := Aside0.mk (HB.out.trans (hb.mono HB.out.size)); clear hb)
        go_roundg (l.length - (n + 1))
        case measure => omega
        case rel => exact ⟨n + 1, by omega, Nat.le_refl _, by go_num, ⟨fun j hj hlt2 => by
          by_cases e : j = n
          · subst e; rw [HY.out]; exact HQ.out
          · exact HF.out j hj (by omega)⟩, HB2⟩
    · have hltz : ¬ (n : Int) < (l.length : Int) := by omega
      obtain rfl : n = l.length := by omega
      go_wp2
      go_ret
      refine ⟨?_, HB.out⟩
      have e1 : idxP p l = -1 := by
        unfold idxP
        refine idxPF_all p l 0 (fun x hx => ?_)
        obtain ⟨j, hj, rfl⟩ := List.getElem_of_mem hx
        exact HF.out j hj hj
      simp only [e1]
      rfl
theorem idxPF_cases {α : Type} (p : α → Bool) : ∀ (l : List α) (k : Nat), (idxPF p l k = -1 ∧ l.find? p = none ∧ ∀ x ∈ l, p x = false) ∨ ∃ (n : Nat) (h : n < l.length), idxPF p l k = ((k + n : Nat) : Int) ∧ l.find? p = some l[n] ∧ p l[n] = true ∧ ∀ j (hj : j < n), p (l[j]'(by omega)) = false
  | [], k => .inl ⟨rfl, rfl, fun x hx => by cases hx⟩
  | x :: r, k => by
    cases hx : p x with
    | true => exact .inr ⟨0, by simp, by simp [idxPF, hx], by simp [hx], hx, fun j hj => absurd hj (Nat.not_lt_zero _)⟩
    | false =>
      rcases idxPF_cases p r (k + 1) with ⟨h1, h2, h3⟩ | ⟨n, hn, h1, h2, h3, h4⟩
      · refine .inl ⟨by simp [idxPF, hx, h1], by simp [hx, h2], fun y hy => ?_⟩
        rcases List.mem_cons.1 hy with rfl | hy
        · exact hx
        · exact h3 y hy
      · refine .inr ⟨n + 1, by simpa using hn, by simp only [idxPF, hx, Bool.false_eq_true, if_false, h1]; congr 1; omega, by simp [hx, h2], by simpa using h3, fun j hj => ?_⟩
        cases j with
        | zero => exact hx
        | succ j => simpa using h4 j (by omega)
theorem idxP_cases {α : Type} (p : α → Bool) (l : List α) : (idxP p l = -1 ∧ l.find? p = none ∧ ∀ x ∈ l, p x = false) ∨ ∃ (n : Nat) (h : n < l.length), idxP p l = (n : Int) ∧ l.find? p = some l[n] ∧ p l[n] = true ∧ ∀ j (hj : j < n), p (l[j]'(by omega)) = false := by
  rcases idxPF_cases p l 0 with h | ⟨n, hn, h1, h2⟩
  · exact .inl h
  · exact .inr ⟨n, hn, by rw [idxP, h1]; omega, h2⟩


theorem eK21 : ∀ args w, (callFunc 21 args).run Tryd.prog w = .ok (.enter 21 args) w := enters_at Tryd.func21 (by kernel_rfl) rfl
theorem eK23 : ∀ args w, (callFunc 23 args).run Tryd.prog w = .ok (.enter 23 args) w := enters_at Tryd.func23 (by kernel_rfl) rfl
theorem eK24 : ∀ args w, (callFunc 24 args).run Tryd.prog w = .ok (.enter 24 args) w := enters_at Tryd.func24 (by kernel_rfl) rfl
theorem cell_alloc {w : World} {b j : Nat} {v : Value} (h : w.cell? ⟨b, j, none⟩ = some v) (hlt : b < w.heap.size) (o : Obj) : (w.alloc o).cell? ⟨b, j, none⟩ = some v :=
  ((below_alloc (Below.refl w.heap.size w) _).cell (p := ⟨b, j, none⟩) hlt).trans h
def mineP (m : ByteArray) (x : S31) : Bool := x.f0.toList == m.toList
def upP (m : ByteArray) (x : S31) : Bool := x.f1.toList == m.toList

set_option maxRecDepth 100000 in
theorem Drop1.calls (x0 x1 : ByteArray) (x2 : Bool) (m : ByteArray) (b1 : Nat) (w : World) (h1 : w.cell? ⟨b1, 0, none⟩ = some (.string m)) (l1 : b1 < w.heap.size) :
    Calls Tryd.prog 21 #[.agg #[.string x0, .string x1, .bool x2], .pointer (some ⟨b1, 0, none⟩)] w fun e w' => e = .returned (.bool (x0.toList == m.toList)) ∧ Below w.heap.size w w' := by
  have hu31 := Tryd.underlying31
  have g1 := cell_alloc h1 l1 (.cells #[.string x0, .string x1, .bool x2] 31)
  clear h1
  go_enter Tryd.func21, Tryd.ntmps21
  go_wp2
  go_ret
  exact ⟨rfl, below_alloc (Below.refl _ _) _⟩

set_option maxRecDepth 100000 in
theorem To1.calls (x0 x1 : ByteArray) (x2 : Bool) (m : ByteArray) (b1 : Nat) (w : World) (h1 : w.cell? ⟨b1, 0, none⟩ = some (.string m)) (l1 : b1 < w.heap.size) :
    Calls Tryd.prog 23 #[.agg #[.string x0, .string x1, .bool x2], .pointer (some ⟨b1, 0, none⟩)] w fun e w' => e = .returned (.bool (x0.toList == m.toList)) ∧ Below w.heap.size w w' := by
  have hu31 := Tryd.underlying31
  have g1 := cell_alloc h1 l1 (.cells #[.string x0, .string x1, .bool x2] 31)
  clear h1
  go_enter Tryd.func23, Tryd.ntmps23
  go_wp2
  go_ret
  exact ⟨rfl, below_alloc (Below.refl _ _) _⟩

set_option maxRecDepth 100000 in
theorem From1.calls (x0 x1 : ByteArray) (x2 : Bool) (m : ByteArray) (b1 : Nat) (w : World) (h1 : w.cell? ⟨b1, 0, none⟩ = some (.string m)) (l1 : b1 < w.heap.size) :
    Calls Tryd.prog 24 #[.agg #[.string x0, .string x1, .bool x2], .pointer (some ⟨b1, 0, none⟩)] w fun e w' => e = .returned (.bool (x1.toList == m.toList)) ∧ Below w.heap.size w w' := by
  have hu31 := Tryd.underlying31
  have g1 := cell_alloc h1 l1 (.cells #[.string x0, .string x1, .bool x2] 31)
  clear h1
  go_enter Tryd.func24, Tryd.ntmps24
  go_wp2
  go_ret
  exact ⟨rfl, below_alloc (Below.refl _ _) _⟩

def findR (p : S31 → Bool) (l : List S31) : S31 × Bool :=
  match l.find? p with
  | some s => (s, true)
  | none => (z31, false)

set_option maxHeartbeats 8000000 in
set_option maxRecDepth 100000 in
theorem names_find.calls (n0 m0 : Int) (A : Option Addr) (c : Nat) (l : List S31) (km : Nat) (cap : Array Value) (p : S31 → Bool) (r1 r2 : ByteArray) (r3 r4 : Bool) (w : World) (hC : Kd.C k31 w A l.length l)
    (eK : ∀ args w, (callFunc km args).run Tryd.prog w = .ok (.enter km args) w)
    (hmay : ∀ (X : World) (x : S31), (∀ k, k < w.heap.size → X.heap[k]? = w.heap[k]?) → Calls Tryd.prog km (#[.agg #[.string x.f0, .string x.f1, .bool x.f2]] ++ cap) X fun e w' => e = .returned (.bool (p x)) ∧ Below X.heap.size X w')
    (h : findR p l = (⟨r1, r2, r3⟩, r4)) :
    Calls Tryd.prog 22 #[.agg #[.int .i64 n0, .int .u64 m0, .slice A l.length c], .func (.func km) #[] cap] w fun e w' => e = .returned (.tuple #[.agg #[.string r1, .string r2, .bool r3], .bool r4]) ∧ Below w.heap.size w w' := by
  have hu25 := Tryd.underlying25
  have hu31 := Tryd.underlying31
  have HI := Aside0.mk (slices_IndexFunc.calls A c l km cap p ((w.alloc (.cells #[.int .i64 n0, .int .u64 m0, .slice A l.length c] 25)).alloc (.cells #[.string ⟨#[]⟩, .string ⟨#[]⟩, .bool false] 31)) (Kd.C_alloc (Kd.C_alloc hC _) _) eK (fun X x hX => hmay X x (fun k hk => (hX k (by simp; omega)).trans ((Below.heap_alloc _ _ k (by simp; omega)).trans (Below.heap_alloc _ _ k hk)))))
  have HBK : Aside0 (((w.alloc (.cells #[.int .i64 n0, .int .u64 m0, .slice A l.length c] 25)).alloc (.cells #[.string ⟨#[]⟩, .string ⟨#[]⟩, .bool false] 31)).heap[w.heap.size]? = some (.cells #[.int .i64 n0, .int .u64 m0, .slice A l.length c] 25 (0, 0))) := ⟨blk_alloc (blk_new _ _) _⟩
  have HBR : Aside0 (((w.alloc (.cells #[.int .i64 n0, .int .u64 m0, .slice A l.length c] 25)).alloc (.cells #[.string ⟨#[]⟩, .string ⟨#[]⟩, .bool false] 31)).heap[w.heap.size + 1]? = some (.cells #[.string ⟨#[]⟩, .string ⟨#[]⟩, .bool false] 31 (0, 0))) := ⟨by simpa using blk_new (w.alloc (.cells #[.int .i64 n0, .int .u64 m0, .slice A l.length c] 25)) (.cells #[.string ⟨#[]⟩, .string ⟨#[]⟩, .bool false] 31)⟩
  have HB3 : Aside0 (Below w.heap.size w ((w.alloc (.cells #[.int .i64 n0, .int .u64 m0, .slice A l.length c] 25)).alloc (.cells #[.string ⟨#[]⟩, .string ⟨#[]⟩, .bool false] 31))) := ⟨below_alloc (below_alloc (Below.refl _ _) _) _⟩
  have HCC := Aside0.mk hC
  have hm : l.length ≤ 9223372036854775807 := hC.2.1
  unfold findR at h
  rcases idxP_cases p l with ⟨h1, h2, -⟩ | ⟨n, hn, h1, h2, -, -⟩
  · rw [h2] at h
    simp only [Prod.mk.injEq, z31, S31.mk.injEq] at h
    obtain ⟨⟨rfl, rfl, rfl⟩, rfl⟩ := h
    rw [h1] at HI
    clear hC h1 h2
    go_enter Tryd.func22, Tryd.ntmps22
    go_wp2_with (go_at_call 29; refine HI.out.mono ?_; rintro e w4 ⟨rfl, hb⟩; have bk3 := blk_below HBR.out hb; have hd0 : w4.cell? ⟨w.heap.size + 1, 0, none⟩ = some (.string ⟨#[]⟩) := (blk_cell bk3 0).trans rfl; have hd1 : w4.cell? ⟨w.heap.size + 1, 1, none⟩ = some (.string ⟨#[]⟩) := (blk_cell bk3 1).trans rfl; have hd2 : w4.cell? ⟨w.heap.size + 1, 2, none⟩ = some (.bool false) := (blk_cell bk3 2).trans rfl; have hfz := fun j => blk_frozen bk3 j; have BK3 := Aside0.mk bk3; have HB := Aside0.mk (HB3.out.trans (hb.mono HB3.out.size)); clear hb bk3)
    refine bodyPost_ret (results_ct rfl _ _ (w.heap.size + 1) 31 #[.string ⟨#[]⟩, .string ⟨#[]⟩, .bool false] (0, 0) _ rfl (by refine blk_put (cs := #[.string ⟨#[]⟩, .string ⟨#[]⟩, .bool false]) ?_ 2 _ rfl; refine blk_put (cs := #[.string ⟨#[]⟩, .string ⟨#[]⟩, .bool false]) ?_ 1 _ rfl; refine blk_put (cs := #[.string ⟨#[]⟩, .string ⟨#[]⟩, .bool false]) ?_ 0 _ rfl; exact BK3.out) Tryd.underlying31 rfl (by kernel_rfl)) rfl ?_
    exact ⟨rfl, below_set (below_set (below_set (HB.out) (by show w.heap.size ≤ w.heap.size + 1; omega)) (by show w.heap.size ≤ w.heap.size + 1; omega)) (by show w.heap.size ≤ w.heap.size + 1; omega)⟩
  · rw [h2] at h
    simp only [Prod.mk.injEq] at h
    obtain ⟨e1, rfl⟩ := h
    rw [h1] at HI
    have hltz : (n : Int) < (l.length : Int) := by omega
    have hn0 : (0 : Int) ≤ (n : Int) := by omega
    have hnn : ¬ (n : Int) < 0 := by omega
    have hrd : rd_T31 l (n : Int) = ⟨r1, r2, r3⟩ := by simp [rd_T31, hn, e1]
    have HRD := Aside0.mk hrd
    clear hC h1 h2 e1 hrd
    go_enter Tryd.func22, Tryd.ntmps22
    go_wp2_with (go_at_call 29; refine HI.out.mono ?_; rintro e w4 ⟨rfl, hb⟩; have bk3 := blk_below HBR.out hb; have hd0 : w4.cell? ⟨w.heap.size + 1, 0, none⟩ = some (.string ⟨#[]⟩) := (blk_cell bk3 0).trans rfl; have hd1 : w4.cell? ⟨w.heap.size + 1, 1, none⟩ = some (.string ⟨#[]⟩) := (blk_cell bk3 1).trans rfl; have hd2 : w4.cell? ⟨w.heap.size + 1, 2, none⟩ = some (.bool false) := (blk_cell bk3 2).trans rfl; have hfz := fun j => blk_frozen bk3 j; have BK3 := Aside0.mk bk3; have bk1 := blk_below HBK.out hb; have hp1 : w4.cell? ⟨w.heap.size, 2, none⟩ = some (.slice A l.length c) := (blk_cell bk1 2).trans rfl; have HB := Aside0.mk (HB3.out.trans (hb.mono HB3.out.size)); clear hb bk3 bk1; obtain ⟨ad, e1, hx0, hx1, hx2⟩ := at_T31 (Kd.C_below HCC.out HB.out) (n : Int) hn0 hltz; cases e1; rw [Int.toNat_natCast] at hx0 hx1 hx2; rw [HRD.out] at hx0 hx1 hx2)
    refine bodyPost_ret (results_ct rfl _ _ (w.heap.size + 1) 31 #[.string r1, .string r2, .bool r3] (0, 0) _ rfl (by refine blk_put (cs := #[.string r1, .string r2, .bool false]) ?_ 2 _ rfl; refine blk_put (cs := #[.string r1, .string ⟨#[]⟩, .bool false]) ?_ 1 _ rfl; refine blk_put (cs := #[.string ⟨#[]⟩, .string ⟨#[]⟩, .bool false]) ?_ 0 _ rfl; exact BK3.out) Tryd.underlying31 rfl (by kernel_rfl)) rfl ?_
    exact ⟨rfl, below_set (below_set (below_set (HB.out) (by show w.heap.size ≤ w.heap.size + 1; omega)) (by show w.heap.size ≤ w.heap.size + 1; omega)) (by show w.heap.size ≤ w.heap.size + 1; omega)⟩

def names_To.f (a0_0 a0_1 : Int) (l0_2 : List S31) (a1 : ByteArray) : Option (ByteArray × ByteArray × Bool × Bool) :=
  some ((findR (mineP a1) l0_2).1.f0, (findR (mineP a1) l0_2).1.f1, (findR (mineP a1) l0_2).1.f2, (findR (mineP a1) l0_2).2)

set_option maxHeartbeats 8000000 in
set_option maxRecDepth 100000 in
theorem names_To.calls (a0_0 a0_1 : Int) (A0_2 : Option Addr) (c0_2 : Nat) (l0_2 : List S31) (a1 : ByteArray) (r1 r2 : ByteArray) (r3 r4 : Bool) (w : World) (hr0_2 : Kd.C k31 w A0_2 l0_2.length l0_2) (hc0_2 : l0_2.length ≤ c0_2) (h : names_To.f a0_0 a0_1 l0_2 a1 = some (r1, r2, r3, r4)) :
    Calls Tryd.prog 13 #[.agg #[.int .i64 a0_0, .int .u64 a0_1, .slice A0_2 l0_2.length c0_2], .string a1] w fun e w' => e = .returned (.tuple #[.agg #[.string r1, .string r2, .bool r3], .bool r4]) ∧ Below w.heap.size w w' := by
  have hu25 := Tryd.underlying25
  have hu31 := Tryd.underlying31
  have hF : findR (mineP a1) l0_2 = (⟨r1, r2, r3⟩, r4) := by
    unfold names_To.f at h
    simp only [Option.some.injEq, Prod.mk.injEq] at h
    obtain ⟨rfl, rfl, rfl, rfl⟩ := h
    rfl
  clear h
  have HI := Aside0.mk (names_find.calls a0_0 a0_1 A0_2 c0_2 l0_2 23 #[.pointer (some ⟨w.heap.size + 1, 0, none⟩)] (mineP a1) r1 r2 r3 r4 (((w.alloc (.cells #[.int .i64 a0_0, .int .u64 a0_1, .slice A0_2 l0_2.length c0_2] 25)).alloc (.cells #[.string a1] 9)).alloc (.cells #[.string ⟨#[]⟩, .string ⟨#[]⟩, .bool false] 31)) (Kd.C_alloc (Kd.C_alloc (Kd.C_alloc hr0_2 _) _) _) eK23
    (fun X x hX => by
      have e1 : X.heap[w.heap.size + 1]? = some (.cells #[.string a1] 9 (0, 0)) := (hX _ (by simp)).trans (blk_alloc (by simpa using blk_new (w.alloc (.cells #[.int .i64 a0_0, .int .u64 a0_1, .slice A0_2 l0_2.length c0_2] 25)) (.cells #[.string a1] 9)) _)
      exact To1.calls x.f0 x.f1 x.f2 a1 _ X ((blk_cell e1 0).trans rfl) (blk_lt e1)) hF)
  have HBR : Aside0 ((((w.alloc (.cells #[.int .i64 a0_0, .int .u64 a0_1, .slice A0_2 l0_2.length c0_2] 25)).alloc (.cells #[.string a1] 9)).alloc (.cells #[.string ⟨#[]⟩, .string ⟨#[]⟩, .bool false] 31)).heap[w.heap.size + 1 + 1]? = some (.cells #[.string ⟨#[]⟩, .string ⟨#[]⟩, .bool false] 31 (0, 0))) := ⟨by simpa using blk_new ((w.alloc (.cells #[.int .i64 a0_0, .int .u64 a0_1, .slice A0_2 l0_2.length c0_2] 25)).alloc (.cells #[.string a1] 9)) (.cells #[.string ⟨#[]⟩, .string ⟨#[]⟩, .bool false] 31)⟩
  have HB3 : Aside0 (Below w.heap.size w (((w.alloc (.cells #[.int .i64 a0_0, .int .u64 a0_1, .slice A0_2 l0_2.length c0_2] 25)).alloc (.cells #[.string a1] 9)).alloc (.cells #[.string ⟨#[]⟩, .string ⟨#[]⟩, .bool false] 31))) := ⟨below_alloc (below_alloc (below_alloc (Below.refl _ _) _) _) _⟩
  clear hr0_2 hF
  go_enter Tryd.func13, Tryd.ntmps13
  go_wp2_with (go_at_call 22; refine HI.out.mono ?_; rintro e w4 ⟨rfl, hb⟩; have bk3 := blk_below HBR.out hb; have hd0 : w4.cell? ⟨w.heap.size + 1 + 1, 0, none⟩ = some (.string ⟨#[]⟩) := (blk_cell bk3 0).trans rfl; have hd1 : w4.cell? ⟨w.heap.size + 1 + 1, 1, none⟩ = some (.string ⟨#[]⟩) := (blk_cell bk3 1).trans rfl; have hd2 : w4.cell? ⟨w.heap.size + 1 + 1, 2, none⟩ = some (.bool false) := (blk_cell bk3 2).trans rfl; have hfz := fun j => blk_frozen bk3 j; have BK3 := Aside0.mk bk3; have HB := Aside0.mk (HB3.out.trans (hb.mono HB3.out.size)); clear hb bk3)
  refine bodyPost_ret (results_ct rfl _ _ (w.heap.size + 1 + 1) 31 #[.string r1, .string r2, .bool r3] (0, 0) _ rfl (by refine blk_put (cs := #[.string r1, .string r2, .bool false]) ?_ 2 _ rfl; refine blk_put (cs := #[.string r1, .string ⟨#[]⟩, .bool false]) ?_ 1 _ rfl; refine blk_put (cs := #[.string ⟨#[]⟩, .string ⟨#[]⟩, .bool false]) ?_ 0 _ rfl; exact BK3.out) Tryd.underlying31 rfl (by kernel_rfl)) rfl ?_
  exact ⟨rfl, below_set (below_set (below_set (HB.out) (by show w.heap.size ≤ w.heap.size + 1 + 1; omega)) (by show w.heap.size ≤ w.heap.size + 1 + 1; omega)) (by show w.heap.size ≤ w.heap.size + 1 + 1; omega)⟩

def names_From.f (a0_0 a0_1 : Int) (l0_2 : List S31) (a1 : ByteArray) : Option (ByteArray × ByteArray × Bool × Bool) :=
  some ((findR (upP a1) l0_2).1.f0, (findR (upP a1) l0_2).1.f1, (findR (upP a1) l0_2).1.f2, (findR (upP a1) l0_2).2)

set_option maxHeartbeats 8000000 in
set_option maxRecDepth 100000 in
theorem names_From.calls (a0_0 a0_1 : Int) (A0_2 : Option Addr) (c0_2 : Nat) (l0_2 : List S31) (a1 : ByteArray) (r1 r2 : ByteArray) (r3 r4 : Bool) (w : World) (hr0_2 : Kd.C k31 w A0_2 l0_2.length l0_2) (hc0_2 : l0_2.length ≤ c0_2) (h : names_From.f a0_0 a0_1 l0_2 a1 = some (r1, r2, r3, r4)) :
    Calls Tryd.prog 15 #[.agg #[.int .i64 a0_0, .int .u64 a0_1, .slice A0_2 l0_2.length c0_2], .string a1] w fun e w' => e = .returned (.tuple #[.agg #[.string r1, .string r2, .bool r3], .bool r4]) ∧ Below w.heap.size w w' := by
  have hu25 := Tryd.underlying25
  have hu31 := Tryd.underlying31
  have hF : findR (upP a1) l0_2 = (⟨r1, r2, r3⟩, r4) := by
    unfold names_From.f at h
    simp only [Option.some.injEq, Prod.mk.injEq] at h
    obtain ⟨rfl, rfl, rfl, rfl⟩ := h
    rfl
  clear h
  have HI := Aside0.mk (names_find.calls a0_0 a0_1 A0_2 c0_2 l0_2 24 #[.pointer (some ⟨w.heap.size + 1, 0, none⟩)] (upP a1) r1 r2 r3 r4 (((w.alloc (.cells #[.int .i64 a0_0, .int .u64 a0_1, .slice A0_2 l0_2.length c0_2] 25)).alloc (.cells #[.string a1] 9)).alloc (.cells #[.string ⟨#[]⟩, .string ⟨#[]⟩, .bool false] 31)) (Kd.C_alloc (Kd.C_alloc (Kd.C_alloc hr0_2 _) _) _) eK24
    (fun X x hX => by
      have e1 : X.heap[w.heap.size + 1]? = some (.cells #[.string a1] 9 (0, 0)) := (hX _ (by simp)).trans (blk_alloc (by simpa using blk_new (w.alloc (.cells #[.int .i64 a0_0, .int .u64 a0_1, .slice A0_2 l0_2.length c0_2] 25)) (.cells #[.string a1] 9)) _)
      exact From1.calls x.f0 x.f1 x.f2 a1 _ X ((blk_cell e1 0).trans rfl) (blk_lt e1)) hF)
  have HBR : Aside0 ((((w.alloc (.cells #[.int .i64 a0_0, .int .u64 a0_1, .slice A0_2 l0_2.length c0_2] 25)).alloc (.cells #[.string a1] 9)).alloc (.cells #[.string ⟨#[]⟩, .string ⟨#[]⟩, .bool false] 31)).heap[w.heap.size + 1 + 1]? = some (.cells #[.string ⟨#[]⟩, .string ⟨#[]⟩, .bool false] 31 (0, 0))) := ⟨by simpa using blk_new ((w.alloc (.cells #[.int .i64 a0_0, .int .u64 a0_1, .slice A0_2 l0_2.length c0_2] 25)).alloc (.cells #[.string a1] 9)) (.cells #[.string ⟨#[]⟩, .string ⟨#[]⟩, .bool false] 31)⟩
  have HB3 : Aside0 (Below w.heap.size w (((w.alloc (.cells #[.int .i64 a0_0, .int .u64 a0_1, .slice A0_2 l0_2.length c0_2] 25)).alloc (.cells #[.string a1] 9)).alloc (.cells #[.string ⟨#[]⟩, .string ⟨#[]⟩, .bool false] 31))) := ⟨below_alloc (below_alloc (below_alloc (Below.refl _ _) _) _) _⟩
  clear hr0_2 hF
  go_enter Tryd.func15, Tryd.ntmps15
  go_wp2_with (go_at_call 22; refine HI.out.mono ?_; rintro e w4 ⟨rfl, hb⟩; have bk3 := blk_below HBR.out hb; have hd0 : w4.cell? ⟨w.heap.size + 1 + 1, 0, none⟩ = some (.string ⟨#[]⟩) := (blk_cell bk3 0).trans rfl; have hd1 : w4.cell? ⟨w.heap.size + 1 + 1, 1, none⟩ = some (.string ⟨#[]⟩) := (blk_cell bk3 1).trans rfl; have hd2 : w4.cell? ⟨w.heap.size + 1 + 1, 2, none⟩ = some (.bool false) := (blk_cell bk3 2).trans rfl; have hfz := fun j => blk_frozen bk3 j; have BK3 := Aside0.mk bk3; have HB := Aside0.mk (HB3.out.trans (hb.mono HB3.out.size)); clear hb bk3)
  refine bodyPost_ret (results_ct rfl _ _ (w.heap.size + 1 + 1) 31 #[.string r1, .string r2, .bool r3] (0, 0) _ rfl (by refine blk_put (cs := #[.string r1, .string r2, .bool false]) ?_ 2 _ rfl; refine blk_put (cs := #[.string r1, .string ⟨#[]⟩, .bool false]) ?_ 1 _ rfl; refine blk_put (cs := #[.string ⟨#[]⟩, .string ⟨#[]⟩, .bool false]) ?_ 0 _ rfl; exact BK3.out) Tryd.underlying31 rfl (by kernel_rfl)) rfl ?_
  exact ⟨rfl, below_set (below_set (below_set (HB.out) (by show w.heap.size ≤ w.heap.size + 1 + 1; omega)) (by show w.heap.size ≤ w.heap.size + 1 + 1; omega)) (by show w.heap.size ≤ w.heap.size + 1 + 1; omega)⟩
end Go.Proofs.YtobdcmgdodahgaaDoor.Q
