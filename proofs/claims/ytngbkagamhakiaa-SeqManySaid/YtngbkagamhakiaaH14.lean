/- seq.Answer, and what it calls: slices.Max, slices.ContainsFunc at []uint64: what they compute, and that their calls do so. -/
import Derived.Test.YtngbkagamhakiaaH27
namespace Go.Proofs.Ytngbkagamhakiaa.Q
open Go.RowKit Go.Proofs.YtngbkagamhakiaaW.PrintWords Go.Proofs.YtngbkagamhakiaaW.PrintLast Go.Proofs.YtngbkagamhakiaaW.PrintMore
set_option linter.unusedVariables false
set_option linter.unusedSimpArgs false

def maxStep (m x : Int) : Int := if m < x then x else m
def maxTo (l : List Int) (n : Nat) : Int := (l.take n).foldl maxStep (l.headD 0)
def maxOf (l : List Int) : Int := l.foldl maxStep (l.headD 0)
theorem maxTo_one (l : List Int) (h : 0 < l.length) : maxTo l 1 = l[0] := by
  cases l with
  | nil => simp at h
  | cons x r => simp [maxTo, maxStep]
theorem maxTo_succ (l : List Int) (n : Nat) (h : n < l.length) : maxTo l (n + 1) = maxStep (maxTo l n) l[n] := by
  unfold maxTo
  rw [List.take_succ_eq_append_getElem h, List.foldl_append]
  rfl
theorem maxTo_all (l : List Int) : maxTo l l.length = maxOf l := by
  unfold maxTo maxOf
  rw [List.take_length]

section
attribute [local go_sem] max2_int max_two
set_option maxHeartbeats 8000000 in
set_option maxRecDepth 100000 in
theorem slices_Max.calls (A0 : Option Addr) (c0 : Nat) (l0 : List Int) (w : World) (hC : Kd.C (Kd.int .u64) w A0 l0.length l0) (hl : 0 < l0.length) :
    Calls Try.prog 21 #[.slice A0 l0.length c0] w fun e w' => e = .returned (.int .u64 (maxOf l0)) ∧ Drawn0 w w' := by
  have hm : l0.length ≤ 9223372036854775807 := hC.2.1
  have HC := Aside0.mk hC
  obtain ⟨ad, e1, hx⟩ := Kd.at_int hC 0 (by omega) (by omega)
  cases e1
  rw [show rd l0 (0 : Int) = l0[0] by simp [rd, hl], show ((0 : Int).toNat) = 0 from rfl, Addr.add_zero'] at hx
  have hne : ¬ (l0.length : Int) < 1 := by omega
  have h0lt : (0 : Int) < (l0.length : Int) := by omega
  generalize hy : l0[0] = y at hx
  have HY := Aside0.mk hy
  clear hy hC
  go_enter Try.func21, Try.ntmps21
  go_wp2
  go_loopg [3, 4] l0.length (fun gg v3 v4 wr => ∃ (n : Nat) (m : Int), n ≤ l0.length ∧ 1 ≤ n ∧ l0.length - n ≤ gg ∧ v3 = .int .u64 m ∧ v4 = .int .i64 n ∧ Aside0 (m = maxTo l0 n) ∧ Drawn0 w wr)
  case atStart => exact ⟨1, y, hl, Nat.le_refl _, by omega, rfl, rfl, ⟨by rw [maxTo_one l0 hl]; exact HY.out.symm⟩, Drawn0.refl _⟩
  case round =>
    obtain ⟨n, m, hn, hn1, hg, rfl, rfl, HM, ⟨nd, rfl⟩⟩ := hrel
    clear hx
    by_cases hlt : n < l0.length
    · have hltz : (n : Int) < (l0.length : Int) := by omega
      obtain ⟨ad', e1, hx⟩ := Kd.at_int HC.out n (by omega) hltz
      cases e1
      rw [show rd l0 (n : Int) = l0[n] by simp [rd, hlt], Int.toNat_natCast] at hx
      have HN := Aside0.mk (maxTo_succ l0 n hlt)
      generalize l0[n] = z at hx HN
      generalize hj : (if m < z then z else m) = j
      have HJ := Aside0.mk hj
      go_wp2
      go_roundg (l0.length - (n + 1))
      case measure => omega
      case rel => exact ⟨n + 1, j, by omega, by omega, Nat.le_refl _, by first | rfl | (simp only [hj]), by go_num, ⟨by rw [HN.out, ← HM.out]; exact HJ.out.symm⟩, ⟨⟨_, rfl⟩⟩⟩
    · obtain rfl : n = l0.length := by omega
      have hltz : ¬ (l0.length : Int) < (l0.length : Int) := by omega
      go_wp2
      go_ret
      refine ⟨?_, ⟨⟨_, rfl⟩⟩⟩
      rw [← maxTo_all, ← HM.out]
      rfl
end

def hasF {α : Type} (p : α → Bool) (l : List α) : Bool := l.any p
theorem hasF_idx {α : Type} (p : α → Bool) : ∀ (l : List α) (k : Nat), decide (0 ≤ idxPF p l k) = l.any p
  | [], k => by simp [idxPF]
  | x :: r, k => by
    cases h : p x with
    | true =>
      simp only [idxPF, h, if_true, List.any_cons, Bool.true_or]
      exact decide_eq_true (by omega)
    | false =>
      simp only [idxPF, h, Bool.false_eq_true, if_false, List.any_cons, Bool.false_or]
      exact hasF_idx p r (k + 1)

set_option maxHeartbeats 8000000 in
set_option maxRecDepth 100000 in
theorem slices_ContainsFunc.calls (p : Int → Bool) (g : Nat) (lb : Array Value) (eg : ∀ args w, (callFunc g args).run Try.prog w = .ok (.enter g args) w) (S : World → Prop) (hS : ∀ W n, S W → S (W.drewN n))
    (hp : ∀ W x, S W → Calls Try.prog g (#[.int .u64 x] ++ lb) W fun e w' => e = .returned (.bool (p x)) ∧ Drawn0 W w')
    (A0 : Option Addr) (c0 : Nat) (l0 : List Int) (w : World) (hC : Kd.C (Kd.int .u64) w A0 l0.length l0) (hw : S w) :
    Calls Try.prog 22 #[.slice A0 l0.length c0, .func (.func g) #[] lb] w fun e w' => e = .returned (.bool (l0.any p)) ∧ Drawn0 w w' := by
  have HK := Aside0.mk (slices_IndexFunc.calls p g lb eg S hS hp A0 c0 l0 w hC hw)
  have HE := Aside0.mk (show decide (0 ≤ idxP p l0) = l0.any p from hasF_idx p l0 0)
  clear hC hp hS hw eg
  go_enter Try.func22, Try.ntmps22
  go_wp2_with (go_at_call 27; refine HK.out.mono ?_; rintro e w' ⟨rfl, ⟨nd, rfl⟩⟩)
  go_ret
  refine ⟨?_, ⟨⟨_, rfl⟩⟩⟩
  rw [← HE.out]
  first | rfl | simp

/-- (last, is, at) -/
def seq_Answer.f (l0 : List Int) (a1_0 : Bool) (a1_1 : Int) (a1_2 : Int) (l1_3 : List Int) : Option (Int × Bool × Bool) :=
  if l0.length = 0 then some (0, false, false)
  else if l0.length = 1 then some (maxOf l0, true, false)
  else if (l1_3.any fun n => decide (n ≤ maxOf l0)) = true then some (0, false, false)
  else some (maxOf l0, true, true)

set_option maxHeartbeats 8000000 in
set_option maxRecDepth 100000 in
theorem seq_Answer1.calls (x last : Int) (B : Nat) (W : World) (hb : W.heap[B]? = some (.cells #[.int .u64 last] 22 (0, 0))) :
    Calls Try.prog 23 (#[.int .u64 x] ++ #[.pointer (some ⟨B, 0, none⟩)]) W fun e w' => e = .returned (.bool (decide (x ≤ last))) ∧ Drawn0 W w' := by
  have hc : W.cell? ⟨B, 0, none⟩ = some (.int .u64 last) := (blk_cell hb 0).trans rfl
  show Calls Try.prog 23 #[.int .u64 x, .pointer (some ⟨B, 0, none⟩)] W _
  clear hb
  go_enter Try.func23, Try.ntmps23
  go_wp2
  go_ret
  exact ⟨rfl, Drawn0.refl _⟩

set_option maxHeartbeats 8000000 in
set_option maxRecDepth 100000 in
theorem seq_Answer.calls (A0 : Option Addr) (c0 : Nat) (l0 : List Int) (a1_0 : Bool) (a1_1 : Int) (a1_2 : Int) (A1_3 : Option Addr) (c1_3 : Nat) (l1_3 : List Int) (r1 : Int) (r2 r3 : Bool) (w : World) (hr0 : Kd.C (Kd.int .u64) w A0 l0.length l0) (hc0 : l0.length ≤ c0) (hr1_3 : Kd.C (Kd.int .u64) w A1_3 l1_3.length l1_3) (hc1_3 : l1_3.length ≤ c1_3) (h : seq_Answer.f l0 a1_0 a1_1 a1_2 l1_3 = some (r1, r2, r3)) :
    Calls Try.prog 14 #[.slice A0 l0.length c0, .agg #[.bool a1_0, .int .u64 a1_1, .int .u64 a1_2, .slice A1_3 l1_3.length c1_3]] w fun e w' => e = .returned (.tuple #[.int .u64 r1, .bool r2, .bool r3]) ∧ Below w.heap.size w w' := by
  have hu26 := Try.underlying26
  have H := Aside0.mk h
  have HC0 := Aside0.mk hr0
  have HC1 := Aside0.mk hr1_3
  have hm0 : l0.length ≤ 9223372036854775807 := hr0.2.1
  have eg : ∀ args w, (callFunc 23 args).run Try.prog w = .ok (.enter 23 args) w := enters_at Try.func23 (by kernel_rfl) rfl
  have EG := Aside0.mk eg
  clear h hr0 hr1_3 eg
  by_cases h0 : l0.length = 0
  · obtain rfl : l0 = [] := List.eq_nil_of_length_eq_zero h0
    obtain ⟨rfl, rfl, rfl⟩ : r1 = 0 ∧ r2 = false ∧ r3 = false := by
      have := H.out
      unfold seq_Answer.f at this
      rw [if_pos h0] at this
      simp only [Option.some.injEq, Prod.mk.injEq] at this
      exact ⟨this.1.symm, this.2.1.symm, this.2.2.symm⟩
    clear H h0
    go_enter Try.func14, Try.ntmps14
    go_wp2_with ((with_reducible refine gate_dst (N := 3) rfl ?_); refine box_event ?hg (N := 3) ?hd (cs := #[.bool a1_0, .int .u64 a1_1, .int .u64 a1_2, .slice A1_3 l1_3.length c1_3]) (t := 26) ?hr ?_; (case hd => rfl); (case hg => rfl); (case hr => first | (go_simp; done) | (go_simp; rfl)); intro gb101 hg w4 hbox hb; have HB := Aside0.mk (hb.mono (Nat.le_refl _)); clear hb hbox)
    go_ret3
    exact ⟨rfl, HB.out⟩
  · have hz : ¬ (l0.length : Int) = 0 := by omega
    have hz' : ((l0.length : Int) == 0) = false := beq_eq_false_iff_ne.2 hz
    have hpos : 0 < l0.length := by omega
    have HR := Aside0.mk (show (l0.length = 1 → r1 = maxOf l0 ∧ r2 = true ∧ r3 = false) ∧ (l0.length ≠ 1 → (l1_3.any fun n => decide (n ≤ maxOf l0)) = true → r1 = 0 ∧ r2 = false ∧ r3 = false) ∧ (l0.length ≠ 1 → (l1_3.any fun n => decide (n ≤ maxOf l0)) = false → r1 = maxOf l0 ∧ r2 = true ∧ r3 = true) by
      have h := H.out
      unfold seq_Answer.f at h
      rw [if_neg h0] at h
      refine ⟨fun h1 => ?_, fun h1 ha => ?_, fun h1 ha => ?_⟩
      · rw [if_pos h1] at h
        simp only [Option.some.injEq, Prod.mk.injEq] at h
        exact ⟨h.1.symm, h.2.1.symm, h.2.2.symm⟩
      · rw [if_neg h1, if_pos ha] at h
        simp only [Option.some.injEq, Prod.mk.injEq] at h
        exact ⟨h.1.symm, h.2.1.symm, h.2.2.symm⟩
      · rw [if_neg h1, if_neg (by rw [ha]; simp)] at h
        simp only [Option.some.injEq, Prod.mk.injEq] at h
        exact ⟨h.1.symm, h.2.1.symm, h.2.2.symm⟩)
    clear H
    have Hmax := Aside0.mk (slices_Max.calls A0 c0 l0)
    obtain ⟨mx, hmx⟩ : ∃ mx, maxOf l0 = mx := ⟨_, rfl⟩
    rw [hmx] at HR Hmax
    generalize hany : (l1_3.any fun n => decide (n ≤ mx)) = any at HR
    have HCF := Aside0.mk (fun (B : Nat) (W : World) (hC : Kd.C (Kd.int .u64) W A1_3 l1_3.length l1_3) (hB : W.heap[B]? = some (.cells #[.int .u64 mx] 22 (0, 0))) =>
      slices_ContainsFunc.calls (fun n => decide (n ≤ mx)) 23 #[.pointer (some ⟨B, 0, none⟩)] EG.out (fun W => W.heap[B]? = some (.cells #[.int .u64 mx] 22 (0, 0))) (fun W n h => h) (fun W x hb => seq_Answer1.calls x _ _ W hb) A1_3 c1_3 l1_3 W hC hB)
    rw [hany] at HCF
    clear hmx hany
    have key : ∀ (b1 : Bool), (l0.length = 1) = (b1 = true) → True := fun _ _ => trivial
    clear key
    cases any <;> by_cases h1 : l0.length = 1
    all_goals
      (first
        | (obtain ⟨rfl, rfl, rfl⟩ := HR.out.1 h1
           have h1z : ((l0.length : Int) == 1) = true := beq_iff_eq.2 (by omega))
        | (obtain ⟨rfl, rfl, rfl⟩ := HR.out.2.1 h1 rfl
           have h1z : ((l0.length : Int) == 1) = false := beq_eq_false_iff_ne.2 (by omega))
        | (obtain ⟨rfl, rfl, rfl⟩ := HR.out.2.2 h1 rfl
           have h1z : ((l0.length : Int) == 1) = false := beq_eq_false_iff_ne.2 (by omega)))
      clear HR h1 h0
      go_enter Try.func14, Try.ntmps14
      go_wp2_with (first | ((with_reducible refine gate_dst (N := 3) rfl ?_); refine box_event ?hg (N := 3) ?hd (cs := #[.bool a1_0, .int .u64 a1_1, .int .u64 a1_2, .slice A1_3 l1_3.length c1_3]) (t := 26) ?hr ?_; (case hd => rfl); (case hg => rfl); (case hr => first | (go_simp; done) | (go_simp; rfl)); intro gb101 hg w4 hbox hb; subst hg; have hcz3 : w4.cell? ⟨w.heap.size, 3, none⟩ = some (.slice A1_3 l1_3.length c1_3) := (blk_cell hbox 3).trans rfl; have hlt := blk_lt hbox; have hne := Nat.ne_of_lt (blk_lt hbox); have hne' := Nat.ne_of_gt (blk_lt hbox); have GE := Aside0.mk (Nat.le_of_lt (blk_lt hbox)); have HB := Aside0.mk hb; clear hb hbox) | (go_at_call 21; refine (Hmax.out _ (Kd.C_below HC0.out (by repeat (first | (with_reducible first | exact HB.out | apply below_alloc | apply pw_below_drewN | apply below_drew1) | exact HB.out))) hpos).mono ?_; rintro e w' ⟨rfl, ⟨nd, rfl⟩⟩; have hnc : ((w4.drewN nd).alloc (.cells #[.int .u64 0] 22)).cell? ⟨w4.heap.size, 0, none⟩ = some (.int .u64 0) := (blk_cell (blk_new (w4.drewN nd) (.cells #[.int .u64 0] 22)) 0).trans rfl; have hnf : ((w4.drewN nd).alloc (.cells #[.int .u64 0] 22)).frozen? ⟨w4.heap.size, 0, none⟩ = false := blk_frozen (blk_new (w4.drewN nd) (.cells #[.int .u64 0] 22)) 0; have hcz4 : ((w4.drewN nd).alloc (.cells #[.int .u64 0] 22)).cell? ⟨w.heap.size, 3, none⟩ = some (.slice A1_3 l1_3.length c1_3) := (World.cell?_alloc_lt (w4.drewN nd) _ _ hlt).trans hcz3; have hcz5 : (w4.alloc (.cells #[.int .u64 0] 22)).cell? ⟨w.heap.size, 3, none⟩ = some (.slice A1_3 l1_3.length c1_3) := (World.cell?_alloc_lt w4 _ _ hlt).trans hcz3) | (go_at_call 22; refine (HCF.out w4.heap.size _ ?cc ?bb).mono ?_; (case cc => exact Kd.C_below HC1.out (by repeat (first | (with_reducible first | exact HB.out | apply below_alloc | apply pw_below_drewN | apply below_drew1 | refine below_set ?_ GE.out) | exact HB.out))); (case bb => ((with_reducible repeat (first | refine blk_drewN ?_ _ | refine blk_drew ?_ | refine blk_alloc ?_ _)); refine blk_put (cs := #[.int .u64 0]) ?_ 0 _ rfl; (with_reducible repeat (first | refine blk_drewN ?_ _ | refine blk_drew ?_)); exact blk_new _ _)); rintro e w' ⟨rfl, ⟨nd2, rfl⟩⟩))
    all_goals
      go_ret3
      refine ⟨by first | rfl | simp, ?_⟩
      repeat (first | (with_reducible first | exact HB.out | apply below_alloc | apply pw_below_drewN | apply below_drew1 | refine below_set ?_ GE.out) | exact HB.out)
end Go.Proofs.Ytngbkagamhakiaa.Q
