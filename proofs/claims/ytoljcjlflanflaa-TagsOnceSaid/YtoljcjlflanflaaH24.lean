/- tags.ups: the iterator's contract. -/
import Derived.Test.YtoljcjlflanflaaH22
import Derived.RangeFuncNested
import Derived.RangeFuncBound
import Derived.RangeFuncBox
import Derived.RangeFuncCalls
import Derived.RangeFuncLeaves
import Derived.Shelf.Abstract
import Derived.WalkKit
import Derived.OwnWalkIn
import Derived.TacticsInMore
import Derived.LoopNIn
import Derived.LoopIn
import Derived.Maps.AppendAt
namespace Go.Proofs.Ytoljcjlflanflaa.Q
open Go.RowKit Go.Proofs.YtoljcjlflanflaaW.PrintWords Go.Proofs.YtoljcjlflanflaaW.PrintLast Go.Proofs.YtoljcjlflanflaaW.PrintMore
open Go.Shelf
set_option linter.unusedVariables false
set_option linter.unusedSimpArgs false
attribute [local go_sem] Oper.semAt_some

/-- What lies below N stays, but block B. -/
structure KpB (N B : Nat) (W W' : World) : Prop where
  size : W.heap.size ≤ W'.heap.size
  block : ∀ k, k < N → k ≠ B → W'.heap[k]? = W.heap[k]?
  same : W'.os = W.os ∧ W'.tape = W.tape ∧ W'.output = W.output
theorem KpB.refl (N B : Nat) (W : World) : KpB N B W W := ⟨Nat.le_refl _, fun _ _ _ => rfl, rfl, rfl, rfl⟩
theorem KpB.trans {N B : Nat} {X Y Z : World} (h : KpB N B X Y) (k : KpB N B Y Z) : KpB N B X Z :=
  ⟨Nat.le_trans h.1 k.1, fun i hi hb => (k.2 i hi hb).trans (h.2 i hi hb), k.3.1.trans h.3.1, k.3.2.1.trans h.3.2.1, k.3.2.2.trans h.3.2.2⟩
theorem KpB.of_below {N B : Nat} {W W' : World} (hN : N ≤ W.heap.size) (h : Below W.heap.size W W') : KpB N B W W' := ⟨h.size, fun i hi _ => h.block i (Nat.lt_of_lt_of_le hi hN), h.os, h.tape, h.output⟩
theorem KpB.drewN {N B : Nat} (W : World) (n : Nat) : KpB N B W (W.drewN n) := ⟨Nat.le_refl _, fun _ _ _ => rfl, rfl, rfl, rfl⟩
theorem KpB.put {N B : Nat} (W : World) (l : Nat) (o o' : Obj) (hl : N ≤ l) (h : W.heap[l]? = some o) (_ : o.isCells = false) (_ : o.isWalk = false) : KpB N B W (W.putObj l o') :=
  ⟨by simp, fun k hk _ => World.putObj_heap_other (by omega), rfl, rfl, rfl⟩

set_option maxRecDepth 100000 in
set_option maxHeartbeats 8000000 in
theorem ups1_stops (n : Nat) (hn : 1 ≤ n) (N B Bs : Nat) (A : Option Addr) (c : Nat) (zs : List S47) (hm : zs.length ≤ 9223372036854775807) (w : World) (hN : N ≤ w.heap.size)
    (hs : ∀ W', KpB N B w W' → W'.cell? ⟨Bs, 0, none⟩ = some (.slice A zs.length c))
    (hC : ∀ W', KpB N B w W' → Kd.C k47 W' A zs.length zs) :
    SeqStopsK Fence.wide n Try.prog 24 #[.pointer (some ⟨Bs, 0, none⟩)] (fun x : Int => #[Value.int .u64 x]) (KpB N B) (fun ys => ys = zs.map (·.f1)) (fun pre => pre <+: zs.map (·.f1)) zs.length w := fun l J Jx W hW hJ hJx hY h0 => by
  have hWK : KpB N B w W := KpB.of_below hN hW
  have hs0 := hs W hWK
  have hu47 := Try.underlying47
  have HC := Aside0.mk hC
  have HY := Aside0.mk hY
  have HJ := Aside0.mk hJ
  clear hC hY hs hJ
  refine callsIn_of_wp Try.func24 rfl trivial ?_ rfl
  simp only [Try.ntmps24, List.size_toArray, List.length_cons, List.length_nil, Nat.reduceAdd, Nat.reduceSub, Array.replicate_succ, Array.replicate_zero, List.push_toArray, List.append_toArray, List.nil_append, List.cons_append]
  gi_wp2
  gi_loopw [7] (fun i wr => ∃ k : Nat, k ≤ zs.length ∧ i = .int .i64 k ∧ Aside0 (J ((zs.take k).map (·.f1)) wr) ∧ Aside0 (KpB N B w wr))
    (fun i _ => zs.length - (intOf i).toNat)
  case atStart => exact ⟨0, Nat.zero_le _, rfl, ⟨h0⟩, ⟨hWK⟩⟩
  case round =>
    obtain ⟨k, hk, rfl, HJs, HK⟩ := hrel
    clear hs0
    by_cases hlt : k < zs.length
    · have hltz : (k : Int) < (zs.length : Int) := by omega
      obtain ⟨ad, e1, hx0, hx1⟩ := at_T47 (HC.out wr HK.out) (k : Int) (by omega) hltz
      cases e1
      rw [show rd_T47 zs (k : Int) = zs[k] by simp [rd_T47, hlt], Int.toNat_natCast] at hx0 hx1
      have htk : (zs.take (k + 1)).map (·.f1) = (zs.take k).map (·.f1) ++ [zs[k].f1] := by
        rw [List.take_succ_eq_append_getElem hlt, List.map_append]
        rfl
      have hpre : ((zs.take k).map (·.f1)).length < zs.length := by rw [List.length_map, List.length_take]; omega
      have hpfx : (zs.take (k + 1)).map (·.f1) <+: zs.map (·.f1) := (List.take_prefix _ _).map _
      generalize zs[k] = y at hx0 hx1 htk
      have HT := Aside0.mk htk
      have HPR := Aside0.mk hpre
      have HPX := Aside0.mk hpfx
      clear htk hpre hpfx
      have hbW : Below wr.heap.size wr (wr.alloc (.cells #[.int .u64 y.f0, .int .u64 y.f1] 47)) := below_alloc (Below.refl _ _) _
      obtain ⟨fn, tmps, assign, body, hy, hR⟩ := HY.out _ y.f1 (wr.alloc (.cells #[.int .u64 y.f0, .int .u64 y.f1] 47)) (HJ.out _ _ _ none HJs.out (grown_of_below hbW _) (fun r e => by cases e)) HPR.out
      gi_wp2
      refine hR.mono ?_
      rintro e W3 (⟨rfl, hJ3, hk3⟩ | ⟨rfl, hJx3⟩)
      · gi_wp2
        go_roundw
        case rel => exact ⟨k + 1, by omega, by go_num, ⟨by rw [HT.out]; exact hJ3⟩, ⟨HK.out.trans ((KpB.of_below (Nat.le_trans hN HK.out.1) hbW).trans hk3)⟩⟩
        case measure => simp [intOf]; omega
      · gi_wp2
        refine bodyPost_ret (results_none rfl _ _ _) rfl ?_
        exact ⟨⟨_, rfl⟩, .inr ⟨_, by have := HPX.out; rw [HT.out] at this; exact this, hJx3⟩⟩
    · obtain rfl : k = zs.length := by omega
      have hltz : ¬ (zs.length : Int) < (zs.length : Int) := by omega
      gi_wp2
      go_end0
      have hfin := HJs.out
      rw [List.take_length] at hfin
      first | exact ⟨⟨_, rfl⟩, .inl ⟨_, rfl, hfin⟩⟩ | exact ⟨⟨_, rfl⟩, .inl hfin⟩

set_option maxHeartbeats 8000000 in
set_option maxRecDepth 100000 in
theorem tags_ups.calls (A : Option Addr) (n c : Nat) (w : World) :
    Calls Try.prog 19 #[.slice A n c] w fun e w' => e = .returned (.func (.func 24) #[] #[.pointer (some ⟨w.heap.size, 0, none⟩)]) ∧ w' = w.alloc (.cells #[.slice A n c] 23) := by
  go_enter Try.func19, Try.ntmps19
  go_wp2
  go_ret
  exact ⟨rfl, rfl⟩
end Go.Proofs.Ytoljcjlflanflaa.Q
