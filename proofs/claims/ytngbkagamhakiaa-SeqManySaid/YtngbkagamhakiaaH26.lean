/- seq.those: the iterator's contract. -/
import Derived.Test.YtngbkagamhakiaaH27
import Derived.RangeFuncNested
import Derived.RangeFuncBound
import Derived.RangeFuncBox
import Derived.RangeFuncCalls
import Derived.RangeFuncLeaves
import Derived.Shelf.Abstract
import Derived.WalkKit
import Derived.OwnWalkIn
import Derived.TacticsInMore
import Derived.LoopNIn
import Derived.LoopIn
import Derived.Maps.AppendAt
namespace Go.Proofs.Ytngbkagamhakiaa.Q
open Go.RowKit Go.Proofs.YtngbkagamhakiaaW.PrintWords Go.Proofs.YtngbkagamhakiaaW.PrintLast Go.Proofs.YtngbkagamhakiaaW.PrintMore
open Go.Shelf
set_option linter.unusedVariables false
set_option linter.unusedSimpArgs false
attribute [local go_sem] Oper.semAt_some

/-- What lies below N stays, but block B. -/
structure KpB (N B : Nat) (W W' : World) : Prop where
  size : W.heap.size ≤ W'.heap.size
  block : ∀ k, k < N → k ≠ B → W'.heap[k]? = W.heap[k]?
  same : W'.os = W.os ∧ W'.tape = W.tape ∧ W'.output = W.output
theorem KpB.refl (N B : Nat) (W : World) : KpB N B W W := ⟨Nat.le_refl _, fun _ _ _ => rfl, rfl, rfl, rfl⟩
theorem KpB.trans {N B : Nat} {X Y Z : World} (h : KpB N B X Y) (k : KpB N B Y Z) : KpB N B X Z :=
  ⟨Nat.le_trans h.1 k.1, fun i hi hb => (k.2 i hi hb).trans (h.2 i hi hb), k.3.1.trans h.3.1, k.3.2.1.trans h.3.2.1, k.3.2.2.trans h.3.2.2⟩
theorem KpB.of_below {N B : Nat} {W W' : World} (hN : N ≤ W.heap.size) (h : Below W.heap.size W W') : KpB N B W W' := ⟨h.size, fun i hi _ => h.block i (Nat.lt_of_lt_of_le hi hN), h.os, h.tape, h.output⟩
theorem KpB.drewN {N B : Nat} (W : World) (n : Nat) : KpB N B W (W.drewN n) := ⟨Nat.le_refl _, fun _ _ _ => rfl, rfl, rfl, rfl⟩
theorem KpB.put {N B : Nat} (W : World) (l : Nat) (o o' : Obj) (hl : N ≤ l) (h : W.heap[l]? = some o) (_ : o.isCells = false) (_ : o.isWalk = false) : KpB N B W (W.putObj l o') :=
  ⟨by simp, fun k hk _ => World.putObj_heap_other (by omega), rfl, rfl, rfl⟩

set_option maxRecDepth 100000 in
set_option maxHeartbeats 8000000 in
theorem those1_stops (p : Int → Bool) (g : Nat) (lb : Array Value) (eg : ∀ args w, (callFunc g args).run Try.prog w = .ok (.enter g args) w) (n : Nat) (hn : 1 ≤ n) (N B Bs Bf : Nat) (A : Option Addr) (c : Nat) (zs : List Int) (hm : zs.length ≤ 9223372036854775807) (w : World) (hN : N ≤ w.heap.size)
    (hs : ∀ W', KpB N B w W' → W'.cell? ⟨Bs, 0, none⟩ = some (.slice A zs.length c)) (hf : ∀ W', KpB N B w W' → W'.cell? ⟨Bf, 0, none⟩ = some (.func (.func g) #[] lb))
    (hC : ∀ W', KpB N B w W' → Kd.C (Kd.int .u64) W' A zs.length zs)
    (hp : ∀ W' x, KpB N B w W' → Calls Try.prog g (#[.int .u64 x] ++ lb) W' fun e w' => e = .returned (.bool (p x)) ∧ Drawn0 W' w') :
    SeqStopsK Fence.wide n Try.prog 26 #[.pointer (some ⟨Bs, 0, none⟩), .pointer (some ⟨Bf, 0, none⟩)] (fun x : Int => #[Value.int .u64 x]) (KpB N B) (fun ys => ys = zs.filter p) (fun pre => pre <+: zs.filter p) (zs.filter p).length w := fun l J Jx W hW hJ hJx hY h0 => by
  have hWK : KpB N B w W := KpB.of_below hN hW
  have hs0 := hs W hWK
  have HF := Aside0.mk hf
  have HC := Aside0.mk hC
  have HP := Aside0.mk hp
  have HY := Aside0.mk hY
  have HJ := Aside0.mk hJ
  clear hf hC hp hY hs hJ
  refine callsIn_of_wp Try.func26 rfl trivial ?_ rfl
  simp only [Try.ntmps26, List.size_toArray, List.length_cons, List.length_nil, Nat.reduceAdd, Nat.reduceSub, Array.replicate_succ, Array.replicate_zero, List.push_toArray, List.append_toArray, List.nil_append, List.cons_append]
  gi_wp2
  gi_loopw [8] (fun i wr => ∃ k : Nat, k ≤ zs.length ∧ i = .int .i64 k ∧ Aside0 (J ((zs.take k).filter p) wr) ∧ Aside0 (KpB N B w wr))
    (fun i _ => zs.length - (intOf i).toNat)
  case atStart => exact ⟨0, Nat.zero_le _, rfl, ⟨h0⟩, ⟨hWK⟩⟩
  case round =>
    obtain ⟨k, hk, rfl, HJs, HK⟩ := hrel
    clear hs0
    by_cases hlt : k < zs.length
    · have hltz : (k : Int) < (zs.length : Int) := by omega
      obtain ⟨ad, e1, hx⟩ := Kd.at_int (HC.out wr HK.out) k (by omega) hltz
      cases e1
      rw [show rd zs (k : Int) = zs[k] by simp [rd, hlt], Int.toNat_natCast] at hx
      have hff := HF.out wr HK.out
      have hcall := HP.out wr zs[k] HK.out
      have htk : (zs.take (k + 1)).filter p = (zs.take k).filter p ++ (if p zs[k] then [zs[k]] else []) := by
        rw [List.take_succ_eq_append_getElem hlt, List.filter_append]
        cases h : p zs[k] <;> simp [h]
      have hpre : p zs[k] = true → ((zs.take k).filter p).length < (zs.filter p).length := fun h => by
        have h1 : (zs.take (k + 1)).filter p <+: zs.filter p := (List.take_prefix _ _).filter _
        have h2 := h1.length_le
        rw [htk, h] at h2
        simp at h2
        omega
      have hpfx : (zs.take (k + 1)).filter p <+: zs.filter p := (List.take_prefix _ _).filter _
      generalize zs[k] = y at hx hcall htk hpre
      have HT := Aside0.mk htk
      have HPR := Aside0.mk hpre
      have HPX := Aside0.mk hpfx
      clear htk hpre hpfx
      cases hq : p y with
      | true =>
        rw [hq] at hcall
        have HCA := Aside0.mk hcall
        have HQ := Aside0.mk hq
        clear hcall hq
        gi_wp2_with fail
        refine ⟨trivial, (callsIn_wide.2 HCA.out).mono ?_⟩
        rintro e w' ⟨rfl, ⟨nd, rfl⟩⟩
        obtain ⟨fn, tmps, assign, body, hy, hR⟩ := HY.out _ y (wr.drewN nd) (HJ.out _ _ (wr.drewN nd) none HJs.out (grown_of_below (below_drewN0 wr nd) _) (fun r e => by cases e)) (HPR.out HQ.out)
        gi_wp2
        refine hR.mono ?_
        rintro e W3 (⟨rfl, hJ3, hk3⟩ | ⟨rfl, hJx3⟩)
        · gi_wp2
          go_roundw
          case rel => exact ⟨k + 1, by omega, by go_num, ⟨by rw [HT.out, HQ.out]; exact hJ3⟩, ⟨HK.out.trans ((KpB.drewN wr nd).trans hk3)⟩⟩
          case measure => simp [intOf]; omega
        · gi_wp2
          refine bodyPost_ret (results_none rfl _ _ _) rfl ?_
          exact ⟨⟨_, rfl⟩, .inr ⟨_, by have := HPX.out; rw [HT.out, HQ.out] at this; exact this, hJx3⟩⟩
      | false =>
        rw [hq] at hcall
        have HCA := Aside0.mk hcall
        have HQ := Aside0.mk hq
        clear hcall hq
        gi_wp2_with fail
        refine ⟨trivial, (callsIn_wide.2 HCA.out).mono ?_⟩
        rintro e w' ⟨rfl, ⟨nd, rfl⟩⟩
        have hJ2 := HJ.out _ _ (wr.drewN nd) none HJs.out (grown_of_below (below_drewN0 wr nd) _) (fun r e => by cases e)
        have HJ2 := Aside0.mk hJ2
        clear hJ2
        gi_wp2
        refine ⟨fun _ h => (by cases h), ?_⟩
        gi_wp2
        go_roundw
        case rel => exact ⟨k + 1, by omega, by go_num, ⟨by rw [HT.out, HQ.out]; simpa using HJ2.out⟩, ⟨HK.out.trans (KpB.drewN wr nd)⟩⟩
        case measure => simp [intOf]; omega
    · obtain rfl : k = zs.length := by omega
      have hltz : ¬ (zs.length : Int) < (zs.length : Int) := by omega
      gi_wp2
      go_end0
      have hfin := HJs.out
      rw [List.take_length] at hfin
      first | exact ⟨⟨_, rfl⟩, .inl ⟨_, rfl, hfin⟩⟩ | exact ⟨⟨_, rfl⟩, .inl hfin⟩
end Go.Proofs.Ytngbkagamhakiaa.Q
