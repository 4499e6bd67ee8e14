/- container/heap's down over the queue: what it computes, and that its call does so. -/
import Derived.Test.YteomnodigfcfeaaH28
import Derived.ChangeKeysEq
namespace Go.Proofs.Yteomnodigfcfeaa.Q
open Go.RowKit Go.Proofs.YteomnodigfcfeaaW.PrintWords Go.Proofs.YteomnodigfcfeaaW.PrintLast Go.Proofs.YteomnodigfcfeaaW.PrintMore
set_option linter.unusedVariables false
set_option linter.unusedSimpArgs false

theorem loads55 (q : Nat) (A : Option Addr) (n c : Nat) (w : World) (h : w.cell? ⟨q, 0, none⟩ = some (.slice A n c)) : Sem.run Try.prog (loadVar 55 ⟨q, 0, none⟩) w = .ok (.slice A n c) w := by
  go_simp
theorem run_nilchk (P : Program) (ts : Array TypeId) (t : TypeId) (a : Addr) (x y : String) (w : World) : Sem.run P (Builtin.ssaWrapNilChk_ ts t #[.pointer (some a), strVal x, strVal y]) w = .ok (.pointer (some a)) w := rfl
theorem method60 (name : String) (mt f : Nat) (hm : (Try.prog.info? 60).map (fun i => i.methods.find? (fun m => m.name == name)) = some (some ⟨name, mt, #[], some (f, false)⟩)) (q : Nat) (A : Option Addr) (n c : Nat) (w : World) (h : w.cell? ⟨q, 0, none⟩ = some (.slice A n c)) (k : Nat) :
    Sem.run Try.prog (method (k + 1) 60 (.pointer (some ⟨q, 0, none⟩)) name) w = .ok (f, .slice A n c) w := by
  obtain ⟨i, hi, hf⟩ := Option.map_eq_some_iff.1 hm
  have hu := Try.underlying60
  have hl := loads55 q A n c w h
  unfold method
  simp only [Sem.run_bind, run_typeInfo w hi, Result.andThen_ok, hf]
  go_simp
  simp only [follow, receiverAt, Place.get, asAddr, Sem.run_bind, Sem.run_pure, Result.andThen_ok, hl, hu, run_nilchk]
  go_simp
  rw [run_nilchk]
  go_simp
theorem method_Len (q : Nat) (A : Option Addr) (n c : Nat) (w : World) (h : w.cell? ⟨q, 0, none⟩ = some (.slice A n c)) : Sem.run Try.prog (method 186 60 (.pointer (some ⟨q, 0, none⟩)) "Len") w = .ok (35, .slice A n c) w :=
  method60 "Len" 61 35 (by kernel_rfl) q A n c w h 185
theorem method_Less (q : Nat) (A : Option Addr) (n c : Nat) (w : World) (h : w.cell? ⟨q, 0, none⟩ = some (.slice A n c)) : Sem.run Try.prog (method 186 60 (.pointer (some ⟨q, 0, none⟩)) "Less") w = .ok (28, .slice A n c) w :=
  method60 "Less" 56 28 (by kernel_rfl) q A n c w h 185
theorem method_Swap (q : Nat) (A : Option Addr) (n c : Nat) (w : World) (h : w.cell? ⟨q, 0, none⟩ = some (.slice A n c)) : Sem.run Try.prog (method 186 60 (.pointer (some ⟨q, 0, none⟩)) "Swap") w = .ok (55, .slice A n c) w :=
  method60 "Swap" 67 55 (by kernel_rfl) q A n c w h 185
theorem method_Pop (q : Nat) (w : World) : Sem.run Try.prog (method 186 60 (.pointer (some ⟨q, 0, none⟩)) "Pop") w = .ok (56, .pointer (some ⟨q, 0, none⟩)) w := by
  kernel_rfl

def leastOf (n : Nat) (l : List S24) (i : Nat) : Nat := if 2 * i + 1 + 1 < n ∧ ltD (l.getD (2 * i + 1 + 1) z24) (l.getD (2 * i + 1) z24) = true then 2 * i + 1 + 1 else 2 * i + 1
def downL (n : Nat) : Nat → List S24 → Nat → List S24
  | 0, l, _ => l
  | k + 1, l, i => if n ≤ 2 * i + 1 then l else if ltD (l.getD (leastOf n l i) z24) (l.getD i z24) = true then downL n k (swapD l i (leastOf n l i)) (leastOf n l i) else l

/-- The queue: its variable q holds a slice of the n first cells' pairs of block g. -/
structure Que (w : World) (q g n c : Nat) (l : List S24) : Prop where
  var : w.heap[q]? = some (.cells #[.slice (some ⟨g, 0, none⟩) n c] 55 (0, 0))
  row : Row w g l
  len : n ≤ l.length
  ne : q ≠ g
  cap : n ≤ c
theorem Que.drewN {w : World} {q g n c : Nat} {l : List S24} (h : Que w q g n c l) (m : Nat) : Que (w.drewN m) q g n c l := ⟨h.1, h.2, h.3, h.4, h.5⟩
theorem Que.cell {w : World} {q g n c : Nat} {l : List S24} (h : Que w q g n c l) : w.cell? ⟨q, 0, none⟩ = some (.slice (some ⟨g, 0, none⟩) n c) := (blk_cell h.var 0).trans rfl

theorem getD_lt (l : List S24) (i : Nat) (h : i < l.length) : l.getD i z24 = l[i] := by simp [h]

theorem dn_wraps (i : Nat) (h : i ≤ 8796093022208) : wrap64 (2 * (i : Int)) = 2 * (i : Int) ∧ wrap64 (2 * (i : Int) + 1) = 2 * (i : Int) + 1 ∧ wrap64 (2 * (i : Int) + 1 + 1) = 2 * (i : Int) + 1 + 1 := by unfold wrap64; omega
/-- Less, its places as numbers of Go's. -/
theorem less_at {w : World} {q g N c : Nat} {L : List S24} (hQ : Que w q g N c L) (hN : N = L.length) {i k : Nat} {x y : Int} (hx : (i : Int) = x) (hy : (k : Int) = y) (hi : i < L.length) (hk : k < L.length) {b : Bool} (hb : ltD (L.getD i z24) (L.getD k z24) = b) :
    Calls Try.prog 28 #[.slice (some ⟨g, 0, none⟩) N c, .int .i64 x, .int .i64 y] w fun e w' => e = .returned (.bool b) ∧ Que w' q g N c L ∧ Fr (fun x => x = g) w w' := by
  subst hx hy hb
  rw [getD_lt L i hi, getD_lt L k hk]
  refine (queue_Less.calls g N c L i k w hQ.row hN (by omega) (by omega)).mono ?_
  rintro e w' ⟨rfl, ⟨nd, rfl⟩⟩
  exact ⟨rfl, hQ.drewN nd, (Fr.refl _ _).drewN nd⟩
theorem swap_at {w : World} {q g N c : Nat} {L : List S24} (hQ : Que w q g N c L) (hN : N = L.length) {i k : Nat} {x y : Int} (hx : (i : Int) = x) (hy : (k : Int) = y) (hi : i < L.length) (hk : k < L.length) :
    Calls Try.prog 55 #[.slice (some ⟨g, 0, none⟩) N c, .int .i64 x, .int .i64 y] w fun e w' => e = .returned (.tuple #[]) ∧ Que w' q g N c (swapD L i k) ∧ Fr (fun x => x = g) w w' := by
  subst hx hy
  refine (queue_Swap.calls g N c L i k w hQ.row hN (by omega) (by omega)).mono ?_
  rintro e w' ⟨rfl, hR, hF⟩
  exact ⟨rfl, ⟨hF.blk hQ.var hQ.ne, hR, by rw [swapD_length]; exact hQ.len, hQ.ne, hQ.cap⟩, hF⟩

set_option maxHeartbeats 16000000 in
set_option maxRecDepth 100000 in
theorem heap_down.calls (q g c : Nat) (l : List S24) (i0 n N : Nat) (w : World) (hQ : Que w q g N c l) (hN : l.length = N) (hn : n ≤ N) (hl : N ≤ 8796093022208) (hi : i0 ≤ 8796093022208) :
    Calls Try.prog 38 #[.iface 60 (.pointer (some ⟨q, 0, none⟩)), .int .i64 i0, .int .i64 n] w fun e w' => (∃ b, e = .returned (.bool b)) ∧ Que w' q g N c (downL n (n + 1) l i0) ∧ (downL n (n + 1) l i0).length = N ∧ Fr (fun x => x = g) w w' := by
  have HQ := Aside0.mk hQ
  obtain ⟨T, hT⟩ : ∃ T, downL n (n + 1) l i0 = T := ⟨_, rfl⟩
  rw [hT]
  have HT := Aside0.mk hT
  have HN := Aside0.mk hN
  clear hQ hT hN
  go_enter Try.func38, Try.ntmps38
  go_wp2
  go_loopg [7] (n + 1) (fun gg v7 wr => ∃ (i k : Nat) (L : List S24), v7 = .int .i64 i ∧ Aside0 (L.length = N) ∧ k ≤ gg ∧ n < k + i ∧ i ≤ 8796093022208 ∧ 0 < k ∧ Aside0 (downL n k L i = T) ∧ Aside0 (Que wr q g N c L) ∧ Aside0 (Fr (fun x => x = g) w wr))
  case atStart => exact ⟨i0, n + 1, l, rfl, HN, by omega, by omega, hi, by omega, HT, HQ, ⟨Fr.refl _ _⟩⟩
  case round =>
    obtain ⟨i, k, L, rfl, HL, hk, hik, hib, hk0, HD, HQr, HF⟩ := hrel
    clear HQ
    obtain ⟨k, rfl⟩ : ∃ m, k = m + 1 := ⟨k - 1, by omega⟩
    have hc0 := HQr.out.cell
    have hmL0 : Sem.run Try.prog (method 186 60 (.pointer (some ⟨q, 0, none⟩)) "Less") wr = .ok (28, .slice (some ⟨g, 0, none⟩) N c) wr := method_Less q _ _ _ _ HQr.out.cell
    have hd := HD.out
    simp only [downL] at hd
    have W123 := Aside0.mk (dn_wraps i hib)
    by_cases c1 : n ≤ 2 * i + 1
    · rw [if_pos c1] at hd
      have HDD := Aside0.mk hd
      have c1z : (n : Int) ≤ 2 * (i : Int) + 1 := by omega
      clear hd HD
      obtain ⟨w1, w2, w3⟩ := W123.out
      go_wp2
      go_ret
      rw [← HDD.out]
      exact ⟨⟨_, rfl⟩, HQr.out, HL.out, HF.out⟩
    · rw [if_neg c1] at hd
      have c1z : ¬ (n : Int) ≤ 2 * (i : Int) + 1 := by omega
      have c1y : ¬ (2 * (i : Int) + 1 < 0) := by omega
      by_cases c2 : 2 * i + 1 + 1 < n
      · have c2z : 2 * (i : Int) + 1 + 1 < (n : Int) := by omega
        cases hb1 : ltD (L.getD (2 * i + 1 + 1) z24) (L.getD (2 * i + 1) z24) with
        | true =>
          cases hb2 : ltD (L.getD (2 * i + 1 + 1) z24) (L.getD i z24) with
          | true =>
            have hLN := HL.out
            have hNL : N = L.length := hLN.symm
            have HL1 := Aside0.mk (less_at HQr.out hNL (i := 2 * i + 1 + 1) (k := 2 * i + 1) (x := 2 * (i : Int) + 1 + 1) (y := 2 * (i : Int) + 1) (by omega) (by omega) (by omega) (by omega) hb1)
            have HL2 := Aside0.mk (fun (X : World) (hX : Que X q g N c L) => less_at hX hNL (i := 2 * i + 1 + 1) (k := i) (x := 2 * (i : Int) + 1 + 1) (y := (i : Int)) (by omega) rfl (by omega) (by omega) hb2)
            have HS := Aside0.mk (fun (X : World) (hX : Que X q g N c L) => swap_at hX hNL (i := i) (k := 2 * i + 1 + 1) (x := (i : Int)) (y := 2 * (i : Int) + 1 + 1) rfl (by omega) (by omega) (by omega))
            have hj : leastOf n L i = 2 * i + 1 + 1 := by unfold leastOf; rw [if_pos ⟨c2, hb1⟩]
            rw [hj] at hd
            have hdd : downL n k (swapD L i (2 * i + 1 + 1)) (2 * i + 1 + 1) = T := by rw [if_pos hb2] at hd; exact hd
            have HDD := Aside0.mk hdd
            clear hd hdd hb1 hb2 HD hj hc0 hLN hNL
            obtain ⟨w1, w2, w3⟩ := W123.out
            go_wp2_with (first | (go_at_call 28; refine HL1.out.mono ?_; rintro e w5 ⟨rfl, hQ5, hF5⟩; have hm5 := method_Less q _ _ _ _ hQ5.cell; have HQ5 := Aside0.mk hQ5; have HF5 := Aside0.mk hF5; clear HL1 hQ5 hF5) | (go_at_call 28; refine (HL2.out _ HQ5.out).mono ?_; rintro e w6 ⟨rfl, hQ6, hF6⟩; have hm6 := method_Swap q _ _ _ _ hQ6.cell; have HQ6 := Aside0.mk hQ6; have HF6 := Aside0.mk hF6; clear HL2 hQ6 hF6) | (go_at_call 55; refine (HS.out _ HQ6.out).mono ?_; rintro e w7 ⟨rfl, hQ7, hF7⟩; have HQ7 := Aside0.mk hQ7; have HF7 := Aside0.mk hF7; clear hQ7 hF7 HS))
            clear w1 w2 w3
            go_roundg k
            case measure => omega
            case rel => exact ⟨2 * i + 1 + 1, k, _, by first | rfl | go_num, ⟨by rw [swapD_length]; exact HL.out⟩, by omega, by omega, by omega, by omega, HDD, HQ7, ⟨(HF.out.trans (HF5.out.trans HF6.out)).trans HF7.out⟩⟩
          | false =>
            have hLN := HL.out
            have hNL : N = L.length := hLN.symm
            have HL1 := Aside0.mk (less_at HQr.out hNL (i := 2 * i + 1 + 1) (k := 2 * i + 1) (x := 2 * (i : Int) + 1 + 1) (y := 2 * (i : Int) + 1) (by omega) (by omega) (by omega) (by omega) hb1)
            have HL2 := Aside0.mk (fun (X : World) (hX : Que X q g N c L) => less_at hX hNL (i := 2 * i + 1 + 1) (k := i) (x := 2 * (i : Int) + 1 + 1) (y := (i : Int)) (by omega) rfl (by omega) (by omega) hb2)
            have hj : leastOf n L i = 2 * i + 1 + 1 := by unfold leastOf; rw [if_pos ⟨c2, hb1⟩]
            rw [hj] at hd
            have hdd : L = T := by rw [if_neg (by rw [hb2]; simp)] at hd; exact hd
            have HDD := Aside0.mk hdd
            clear hd hdd hb1 hb2 HD hj hc0 hLN hNL
            obtain ⟨w1, w2, w3⟩ := W123.out
            go_wp2_with (first | (go_at_call 28; refine HL1.out.mono ?_; rintro e w5 ⟨rfl, hQ5, hF5⟩; have hm5 := method_Less q _ _ _ _ hQ5.cell; have HQ5 := Aside0.mk hQ5; have HF5 := Aside0.mk hF5; clear HL1 hQ5 hF5) | (go_at_call 28; refine (HL2.out _ HQ5.out).mono ?_; rintro e w6 ⟨rfl, hQ6, hF6⟩; have hm6 := method_Swap q _ _ _ _ hQ6.cell; have HQ6 := Aside0.mk hQ6; have HF6 := Aside0.mk hF6; clear HL2 hQ6 hF6))
            clear w1 w2 w3
            go_ret
            refine ⟨⟨_, rfl⟩, ?_⟩
            rw [← HDD.out]
            exact ⟨HQ6.out, HL.out, HF.out.trans (HF5.out.trans HF6.out)⟩
        | false =>
          cases hb2 : ltD (L.getD (2 * i + 1) z24) (L.getD i z24) with
          | true =>
            have hLN := HL.out
            have hNL : N = L.length := hLN.symm
            have HL1 := Aside0.mk (less_at HQr.out hNL (i := 2 * i + 1 + 1) (k := 2 * i + 1) (x := 2 * (i : Int) + 1 + 1) (y := 2 * (i : Int) + 1) (by omega) (by omega) (by omega) (by omega) hb1)
            have HL2 := Aside0.mk (fun (X : World) (hX : Que X q g N c L) => less_at hX hNL (i := 2 * i + 1) (k := i) (x := 2 * (i : Int) + 1) (y := (i : Int)) (by omega) rfl (by omega) (by omega) hb2)
            have HS := Aside0.mk (fun (X : World) (hX : Que X q g N c L) => swap_at hX hNL (i := i) (k := 2 * i + 1) (x := (i : Int)) (y := 2 * (i : Int) + 1) rfl (by omega) (by omega) (by omega))
            have hj : leastOf n L i = 2 * i + 1 := by unfold leastOf; rw [if_neg (by rw [hb1]; simp)]
            rw [hj] at hd
            have hdd : downL n k (swapD L i (2 * i + 1)) (2 * i + 1) = T := by rw [if_pos hb2] at hd; exact hd
            have HDD := Aside0.mk hdd
            clear hd hdd hb1 hb2 HD hj hc0 hLN hNL
            obtain ⟨w1, w2, w3⟩ := W123.out
            go_wp2_with (first | (go_at_call 28; refine HL1.out.mono ?_; rintro e w5 ⟨rfl, hQ5, hF5⟩; have hm5 := method_Less q _ _ _ _ hQ5.cell; have HQ5 := Aside0.mk hQ5; have HF5 := Aside0.mk hF5; clear HL1 hQ5 hF5) | (go_at_call 28; refine (HL2.out _ HQ5.out).mono ?_; rintro e w6 ⟨rfl, hQ6, hF6⟩; have hm6 := method_Swap q _ _ _ _ hQ6.cell; have HQ6 := Aside0.mk hQ6; have HF6 := Aside0.mk hF6; clear HL2 hQ6 hF6) | (go_at_call 55; refine (HS.out _ HQ6.out).mono ?_; rintro e w7 ⟨rfl, hQ7, hF7⟩; have HQ7 := Aside0.mk hQ7; have HF7 := Aside0.mk hF7; clear hQ7 hF7 HS))
            clear w1 w2 w3
            go_roundg k
            case measure => omega
            case rel => exact ⟨2 * i + 1, k, _, by first | rfl | go_num, ⟨by rw [swapD_length]; exact HL.out⟩, by omega, by omega, by omega, by omega, HDD, HQ7, ⟨(HF.out.trans (HF5.out.trans HF6.out)).trans HF7.out⟩⟩
          | false =>
            have hLN := HL.out
            have hNL : N = L.length := hLN.symm
            have HL1 := Aside0.mk (less_at HQr.out hNL (i := 2 * i + 1 + 1) (k := 2 * i + 1) (x := 2 * (i : Int) + 1 + 1) (y := 2 * (i : Int) + 1) (by omega) (by omega) (by omega) (by omega) hb1)
            have HL2 := Aside0.mk (fun (X : World) (hX : Que X q g N c L) => less_at hX hNL (i := 2 * i + 1) (k := i) (x := 2 * (i : Int) + 1) (y := (i : Int)) (by omega) rfl (by omega) (by omega) hb2)
            have hj : leastOf n L i = 2 * i + 1 := by unfold leastOf; rw [if_neg (by rw [hb1]; simp)]
            rw [hj] at hd
            have hdd : L = T := by rw [if_neg (by rw [hb2]; simp)] at hd; exact hd
            have HDD := Aside0.mk hdd
            clear hd hdd hb1 hb2 HD hj hc0 hLN hNL
            obtain ⟨w1, w2, w3⟩ := W123.out
            go_wp2_with (first | (go_at_call 28; refine HL1.out.mono ?_; rintro e w5 ⟨rfl, hQ5, hF5⟩; have hm5 := method_Less q _ _ _ _ hQ5.cell; have HQ5 := Aside0.mk hQ5; have HF5 := Aside0.mk hF5; clear HL1 hQ5 hF5) | (go_at_call 28; refine (HL2.out _ HQ5.out).mono ?_; rintro e w6 ⟨rfl, hQ6, hF6⟩; have hm6 := method_Swap q _ _ _ _ hQ6.cell; have HQ6 := Aside0.mk hQ6; have HF6 := Aside0.mk hF6; clear HL2 hQ6 hF6))
            clear w1 w2 w3
            go_ret
            refine ⟨⟨_, rfl⟩, ?_⟩
            rw [← HDD.out]
            exact ⟨HQ6.out, HL.out, HF.out.trans (HF5.out.trans HF6.out)⟩
      · have c2z : ¬ 2 * (i : Int) + 1 + 1 < (n : Int) := by omega
        cases hb2 : ltD (L.getD (2 * i + 1) z24) (L.getD i z24) with
        | true =>
          have hLN := HL.out
          have hNL : N = L.length := hLN.symm
          have HL2 := Aside0.mk (fun (X : World) (hX : Que X q g N c L) => less_at hX hNL (i := 2 * i + 1) (k := i) (x := 2 * (i : Int) + 1) (y := (i : Int)) (by omega) rfl (by omega) (by omega) hb2)
          have HS := Aside0.mk (fun (X : World) (hX : Que X q g N c L) => swap_at hX hNL (i := i) (k := 2 * i + 1) (x := (i : Int)) (y := 2 * (i : Int) + 1) rfl (by omega) (by omega) (by omega))
          have hj : leastOf n L i = 2 * i + 1 := by unfold leastOf; rw [if_neg (fun h => c2 h.1)]
          rw [hj] at hd
          have hdd : downL n k (swapD L i (2 * i + 1)) (2 * i + 1) = T := by rw [if_pos hb2] at hd; exact hd
          have HDD := Aside0.mk hdd
          clear hd hdd hb2 HD hj hc0 hLN hNL
          obtain ⟨w1, w2, w3⟩ := W123.out
          go_wp2_with (first | (go_at_call 28; refine (HL2.out _ HQr.out).mono ?_; rintro e w6 ⟨rfl, hQ6, hF6⟩; have hm6 := method_Swap q _ _ _ _ hQ6.cell; have HQ6 := Aside0.mk hQ6; have HF6 := Aside0.mk hF6; clear HL2 hQ6 hF6) | (go_at_call 55; refine (HS.out _ HQ6.out).mono ?_; rintro e w7 ⟨rfl, hQ7, hF7⟩; have HQ7 := Aside0.mk hQ7; have HF7 := Aside0.mk hF7; clear hQ7 hF7 HS))
          clear w1 w2 w3
          go_roundg k
          case measure => omega
          case rel => exact ⟨2 * i + 1, k, _, by first | rfl | go_num, ⟨by rw [swapD_length]; exact HL.out⟩, by omega, by omega, by omega, by omega, HDD, HQ7, ⟨(HF.out.trans HF6.out).trans HF7.out⟩⟩
        | false =>
          have hLN := HL.out
          have hNL : N = L.length := hLN.symm
          have HL2 := Aside0.mk (fun (X : World) (hX : Que X q g N c L) => less_at hX hNL (i := 2 * i + 1) (k := i) (x := 2 * (i : Int) + 1) (y := (i : Int)) (by omega) rfl (by omega) (by omega) hb2)
          have hj : leastOf n L i = 2 * i + 1 := by unfold leastOf; rw [if_neg (fun h => c2 h.1)]
          rw [hj] at hd
          have hdd : L = T := by rw [if_neg (by rw [hb2]; simp)] at hd; exact hd
          have HDD := Aside0.mk hdd
          clear hd hdd hb2 HD hj hc0 hLN hNL
          obtain ⟨w1, w2, w3⟩ := W123.out
          go_wp2_with (go_at_call 28; refine (HL2.out _ HQr.out).mono ?_; rintro e w6 ⟨rfl, hQ6, hF6⟩; have hm6 := method_Swap q _ _ _ _ hQ6.cell; have HQ6 := Aside0.mk hQ6; have HF6 := Aside0.mk hF6; clear HL2 hQ6 hF6)
          clear w1 w2 w3
          go_ret
          refine ⟨⟨_, rfl⟩, ?_⟩
          rw [← HDD.out]
          exact ⟨HQ6.out, HL.out, HF.out.trans HF6.out⟩
end Go.Proofs.Yteomnodigfcfeaa.Q
