/- container/heap's Init and Pop over the queue: what they compute, and that their calls do so. -/
import Derived.Test.YteomnodigfcfeaaH38
namespace Go.Proofs.Yteomnodigfcfeaa.Q
open Go.RowKit Go.Proofs.YteomnodigfcfeaaW.PrintWords Go.Proofs.YteomnodigfcfeaaW.PrintLast Go.Proofs.YteomnodigfcfeaaW.PrintMore
set_option linter.unusedVariables false
set_option linter.unusedSimpArgs false

def initL (n : Nat) : Nat → List S24 → List S24
  | 0, l => l
  | i + 1, l => initL n i (downL n (n + 1) l i)
def popL (n : Nat) (l : List S24) : List S24 := downL n (n + 1) (swapD l 0 n) 0

set_option maxHeartbeats 16000000 in
set_option maxRecDepth 100000 in
theorem heap_Init.calls (q g c : Nat) (l : List S24) (N : Nat) (w : World) (hQ : Que w q g N c l) (hN : l.length = N) (hl : N ≤ 8796093022208) :
    Calls Try.prog 34 #[.iface 60 (.pointer (some ⟨q, 0, none⟩))] w fun e w' => e = .returned (.tuple #[]) ∧ ∃ L, L = initL N (N / 2) l ∧ Que w' q g N c L ∧ L.length = N ∧ Fr (fun x => x = g) w w' := by
  obtain ⟨T, hT⟩ : ∃ T, initL N (N / 2) l = T := ⟨_, rfl⟩
  rw [hT]
  have HT := Aside0.mk hT
  have HN := Aside0.mk hN
  have HQ := Aside0.mk hQ
  have hm0 := method_Len q _ _ _ _ hQ.cell
  obtain ⟨hf, hhf⟩ : ∃ m, N / 2 = m := ⟨_, rfl⟩
  have HHF := Aside0.mk hhf
  have hhl : hf ≤ N := by omega
  clear hT hN hQ
  clear hhf
  go_enter Try.func34, Try.ntmps34
  go_wp2_with (go_at_call 35; refine (queue_Len.calls _ _ _ _).mono ?_; rintro e w4 ⟨rfl, rfl⟩)
  go_loopg [3] (hf + 1) (fun gg v3 wr => ∃ (m : Nat) (z : Int) (L : List S24), v3 = .int .i64 z ∧ z = (m : Int) - 1 ∧ m ≤ hf ∧ m < gg ∧ Aside0 (L.length = N) ∧ Aside0 (initL N m L = T) ∧ Aside0 (Que wr q g N c L) ∧ Aside0 (Fr (fun x => x = g) w4 wr))
  case atStart => exact ⟨hf, _, l, rfl, by have := HHF.out; omega, Nat.le_refl _, by omega, HN, by first | exact HT | (rw [HHF.out] at HT; exact HT), HQ, ⟨Fr.refl _ _⟩⟩
  case round =>
    obtain ⟨m, z, L, rfl, hz, hmf, hmg, HL, HI, HQr, HF⟩ := hrel
    cases m with
    | zero =>
      obtain rfl : z = -1 := by omega
      clear hz
      go_wp2
      go_end0
      exact ⟨rfl, L, HI.out, HQr.out, HL.out, HF.out⟩
    | succ m =>
      obtain rfl : z = (m : Int) := by omega
      clear hz
      have hI := HI.out
      simp only [initL] at hI
      have HD := Aside0.mk (heap_down.calls q g c L m N N wr HQr.out HL.out (Nat.le_refl _) hl (by omega))
      have HI2 := Aside0.mk hI
      have hz0 : (0 : Int) ≤ (m : Int) := by omega
      clear hI
      go_wp2_with (go_at_call 38; refine HD.out.mono ?_; rintro e w5 ⟨⟨b, rfl⟩, hQ5, hL5, hF5⟩; have HQ5 := Aside0.mk hQ5; have HL5 := Aside0.mk hL5; have HF5 := Aside0.mk hF5; clear hQ5 hL5 hF5 HD)
      go_roundg (m + 1)
      case measure => omega
      case rel => exact ⟨m, _, _, rfl, rfl, by omega, by omega, HL5, HI2, HQ5, ⟨HF.out.trans HF5.out⟩⟩

set_option maxHeartbeats 16000000 in
set_option maxRecDepth 100000 in
/-- What the queue's last one is, when its first one has been brought there. -/
theorem heap_Pop.calls (q g c n : Nat) (l : List S24) (w : World) (hQ : Que w q g (n + 1) c l) (hN : l.length = n + 1) (hl : n + 1 ≤ 8796093022208) :
    Calls Try.prog 36 #[.iface 60 (.pointer (some ⟨q, 0, none⟩))] w fun e w' => e = .returned (.iface 24 (.agg #[.int .i64 ((popL n l).getD n z24).f0, .int .i64 ((popL n l).getD n z24).f1])) ∧ Que w' q g n c ((popL n l).take n) ∧ ((popL n l).take n).length = n ∧ Fr (fun x => x = g ∨ x = q) w w' := by
  have hm0 := method_Len q _ _ _ _ hQ.cell
  have hm1 := method_Swap q _ _ _ _ hQ.cell
  have hs := swap_at hQ hN.symm (i := 0) (k := n) (x := 0) (y := (n : Int)) rfl rfl (by omega) (by omega)
  have HS := Aside0.mk hs
  have hw : wrap64 (((n + 1 : Nat) : Int) - 1) = (n : Int) := by unfold wrap64; omega
  have hw2 : wrap64 (n : Int) = (n : Int) := by unfold wrap64; omega
  have HN := Aside0.mk hN
  have hmp := fun W => method_Pop q W
  have HDn := Aside0.mk (fun (X : World) (hX : Que X q g (n + 1) c (swapD l 0 n)) => heap_down.calls q g c (swapD l 0 n) 0 n (n + 1) X hX (by rw [swapD_length]; exact hN) (by omega) hl (by omega))
  have HP := Aside0.mk (fun (X : World) (L : List S24) (hX : Que X q g (n + 1) c L) (hL : L.length = n + 1) => queue_Pop.calls q g n c L X hX.var hX.row hL.symm hX.cap)
  clear hs hN hQ
  go_enter Try.func36, Try.ntmps36
  go_wp2_with (first
    | (go_at_call 35; refine (queue_Len.calls _ _ _ _).mono ?_; rintro e w4 ⟨rfl, rfl⟩)
    | (go_at_call 55; refine HS.out.mono ?_; rintro e w5 ⟨rfl, hQ5, hF5⟩; have HQ5 := Aside0.mk hQ5; have HF5 := Aside0.mk hF5; clear HS hQ5 hF5)
    | (go_at_call 38; refine (HDn.out _ HQ5.out).mono ?_; rintro e w6 ⟨⟨b, rfl⟩, hQ6, hL6, hF6⟩; have HQ6 := Aside0.mk hQ6; have HL6 := Aside0.mk hL6; have HF6 := Aside0.mk hF6; clear HDn hQ6 hL6 hF6)
    | (go_at_call 56; refine (HP.out _ _ HQ6.out HL6.out).mono ?_; rintro e w7 ⟨rfl, hv7, hF7⟩; have HV7 := Aside0.mk hv7; have HF7 := Aside0.mk hF7; clear HP hv7 hF7))
  go_ret
  have hlen : (popL n l).length = n + 1 := HL6.out
  have hR := (HQ6.out.row.of_fr HF7.out (fun e => HQ6.out.ne e.symm)).take n
  refine ⟨rfl, ⟨HV7.out, hR, ?_, HQ6.out.ne, ?_⟩, ?_, ?_⟩
  · rw [List.length_take, hlen]; omega
  · have := HQ6.out.cap; omega
  · rw [List.length_take, hlen]; omega
  · exact ((HF5.out.mono (fun _ h => Or.inl h)).trans (HF6.out.mono (fun _ h => Or.inl h))).trans (HF7.out.mono (fun _ h => Or.inr h))
end Go.Proofs.Yteomnodigfcfeaa.Q
