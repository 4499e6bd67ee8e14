/- beat.ordered: what it computes, and that its call does so. -/
import Derived.Test.YteomnodigfcfeaaH33
import Derived.WalkMore
import Derived.Shelf.Abstract
namespace Go.Proofs.Yteomnodigfcfeaa.Q
open Go.RowKit Go.Proofs.YteomnodigfcfeaaW.PrintWords Go.Proofs.YteomnodigfcfeaaW.PrintLast Go.Proofs.YteomnodigfcfeaaW.PrintMore
set_option linter.unusedVariables false
set_option linter.unusedSimpArgs false

/-- All of them off a heap, one behind the other. -/
def drainL : Nat → List S24 → List S24
  | 0, _ => []
  | n + 1, l => (popL n l).getD n z24 :: drainL n ((popL n l).take n)
def sortedL (l : List S24) : List S24 := drainL l.length (initL l.length (l.length / 2) l)

theorem R_fr {S ok : Nat → Prop} {w W : World} {base : Nat} {v : Value} {xs : List S24} (h : Kd.R k24 24 w base ok v xs) (hf : Fr S w W) (hS : ∀ k, S k → k < base) : Kd.R k24 24 W base ok v xs :=
  Kd.R_mono (Kd.R_step (Kd.R_bound h) (fun k hk hlt => hf.2 k hlt (fun hs => by have := hS k hs; have := hk.2.1; omega))) (fun k hk => hk.1)

theorem Que.below {w W : World} {q g n c : Nat} {l : List S24} (h : Que w q g n c l) (hb : Below w.heap.size w W) : Que W q g n c l :=
  ⟨blk_below h.var hb, h.row.of_fr (Fr.of_below (fun _ => False) hb) (fun h => h), h.len, h.ne, h.cap⟩
theorem Que.belowN {w W : World} {q g n c N : Nat} {l : List S24} (h : Que w q g n c l) (hb : Below N w W) (hq : q < N) (hg : g < N) : Que W q g n c l := by
  obtain ⟨cs, h1, h2⟩ := h.row
  exact ⟨(hb.block q hq).trans h.var, ⟨cs, (hb.block g hg).trans h1, h2⟩, h.len, h.ne, h.cap⟩

set_option maxHeartbeats 16000000 in
set_option maxRecDepth 100000 in
theorem beat_ordered.calls (A : Option Addr) (c : Nat) (l : List S24) (km : Nat) (cap : Array Value) (p : S24 → Bool) (w : World) (hC : Kd.C k24 w A l.length l) (hl : l.length ≤ 8796093022000) (hpos : 0 < l.length)
    (eK : ∀ args w, (callFunc km args).run Try.prog w = .ok (.enter km args) w)
    (hmay : ∀ (X : World) (x : S24), (∀ k, k < w.heap.size → X.heap[k]? = w.heap[k]?) → Calls Try.prog km (#[.agg #[.int .i64 x.f0, .int .i64 x.f1]] ++ cap) X fun e w' => e = .returned (.bool (p x)) ∧ Below X.heap.size X w') :
    Calls Try.prog 25 #[.slice A l.length c, .func (.func km) #[] cap] w fun e w' => ∃ v1 v2 : Value, e = .returned (.tuple #[v1, v2]) ∧ Kd.R k24 24 w' w.heap.size (fun k_ => some k_ ≠ v2.ownBlock) v1 ((sortedL l).filter p) ∧ Kd.R k24 24 w' w.heap.size (fun k_ => some k_ ≠ v1.ownBlock) v2 ((sortedL l).filter fun x => !p x) ∧ Below w.heap.size w w' := by
  have HK := Aside0.mk (slices_Clone.calls A c l w hC hl)
  obtain ⟨n, hn⟩ : ∃ n, l.length = n := ⟨_, rfl⟩
  have hsd : sortedL l = drainL n (initL n (n / 2) l) := by unfold sortedL; rw [hn]
  obtain ⟨T, hT⟩ : ∃ T, sortedL l = T := ⟨_, rfl⟩
  rw [hT]
  have HT := Aside0.mk (hsd.symm.trans hT)
  have HN := Aside0.mk hn
  have HPOS := Aside0.mk hpos
  have HL := Aside0.mk hl
  have HM := Aside0.mk hmay
  have h24 : ∀ (a b : Int) (W : World), Sem.run Try.prog (Instr.typeAssert (.iface 24 (.agg #[.int .i64 a, .int .i64 b])) 20 24 true) W = .ok (.tuple #[.agg #[.int .i64 a, .int .i64 b], .bool true]) W := fun a b W => by kernel_rfl
  have HI := Aside0.mk (fun (X : World) (q g c : Nat) (hQ : Que X q g n c l) => heap_Init.calls q g c l n X hQ hn (by omega))
  rw [hn]
  rw [hn] at HK
  clear hC hn hT hsd hpos hl hmay
  go_enter Try.func25, Try.ntmps25
  go_wp2
  go_step3
  go_wp2_with (first
    | (go_at_call 33; refine HK.out.mono ?_; rintro e w4 ⟨v4, rfl, hR, hb⟩; obtain ⟨g, c4, rfl, hrow, hgb, hc4⟩ := R_Row hR HPOS.out; rw [HN.out] at hc4 ⊢; have HB4 := Aside0.mk hb; have HQ4 : Aside0 (Que (w4.alloc (.cells #[.slice (some ⟨g, 0, none⟩) n c4] 55)) w4.heap.size g n c4 l) := ⟨⟨blk_new _ _, (hrow.of_fr (Fr.of_below (fun _ => False) (below_alloc (Below.refl _ _) _)) (fun h => h)), by rw [HN.out]; exact Nat.le_refl _, by have := hrow.lt; omega, hc4⟩⟩; have HGB := Aside0.mk hgb; have HGL := Aside0.mk hrow.lt; clear hR hb HK hrow hgb hc4)
    | (go_at_call 34; refine (HI.out _ _ _ _ HQ4.out).mono ?_; rintro e w5 ⟨rfl, L0, hL0, hQ5, hL5, hF5⟩; have HQ5 := Aside0.mk hQ5; have HL5 := Aside0.mk hL5; have HF5 := Aside0.mk hF5; have HL0 := Aside0.mk hL0; clear HI hQ5 hL5 hF5 hL0))
  go_step3
  go_wp2
  obtain ⟨N0, hN0⟩ : ∃ N0, w4.heap.size + 1 = N0 := ⟨_, rfl⟩
  have HG0 : Aside0 (∀ k, (k = g ∨ k = w4.heap.size) → k < N0) := ⟨fun k hk => by have := HGL.out; rcases hk with rfl | rfl <;> omega⟩
  have HS5 : Aside0 (N0 ≤ w5.heap.size) := ⟨by have := HF5.out.size; simp at this; omega⟩
  have HW5 : Aside0 (∀ k, k < w.heap.size → w5.heap[k]? = w.heap[k]?) := ⟨fun k hk => (HF5.out.2 k (by have := HB4.out.size; simp; omega) (by have := HGB.out; omega)).trans ((Below.heap_alloc _ _ k (by have := HB4.out.size; omega)).trans (HB4.out.block k hk))⟩
  have HB5 : Aside0 (Below w.heap.size w w5) := ⟨(below_alloc HB4.out _).trans (HF5.out.toBelow (by have := HB4.out.size; simp; omega) (fun k hk => by rw [hk]; exact HGB.out))⟩
  have HWN : Aside0 (w.heap.size ≤ w4.heap.size) := ⟨HB4.out.size⟩
  have HT5 : Aside0 (drainL n L0 = T) := ⟨by rw [HL0.out]; exact HT.out⟩
  have HWN0 : Aside0 (w.heap.size ≤ N0) := ⟨by have := HB4.out.size; omega⟩
  have HNG : Aside0 (∀ k, k < w.heap.size → ¬ (k = g ∨ k = w4.heap.size)) := ⟨fun k hk h => by have := HGB.out; have := HB4.out.size; omega⟩
  have HNG2 : Aside0 (∀ k, (k = g ∨ k = w4.heap.size) → w.heap.size ≤ k) := ⟨fun k hk => by have := HGB.out; have := HB4.out.size; omega⟩
  generalize w4.heap.size = q at *
  clear HQ4 HF5 HL0 HT HB4 hN0
  go_loopg [7, 8] (n + 1) (fun gg v7 v8 wr => ∃ (m : Nat) (L o lf : List S24), Aside0 (L.length = m) ∧ m + 1 ≤ gg ∧ m ≤ n ∧ Aside0 (o ++ (drainL m L).filter p = T.filter p) ∧ Aside0 (lf ++ (drainL m L).filter (fun x => !p x) = T.filter fun x => !p x) ∧ Aside0 (o.length + m ≤ n) ∧ Aside0 (lf.length + m ≤ n) ∧
    Aside0 (Que wr q g m c4 L) ∧ Aside0 (Below w.heap.size w wr) ∧ Aside0 (N0 ≤ wr.heap.size) ∧ Aside0 (Kd.R k24 24 wr N0 (fun k_ => some k_ ≠ (v8 : Value).ownBlock) v7 o) ∧ Aside0 (Kd.R k24 24 wr N0 (fun k_ => some k_ ≠ (v7 : Value).ownBlock) v8 lf))
  case atStart => exact ⟨n, L0, [], [], HL5, by omega, Nat.le_refl _, ⟨by rw [HT5.out]; rfl⟩, ⟨by rw [HT5.out]; rfl⟩, ⟨by simp⟩, ⟨by simp⟩, HQ5, HB5, HS5, ⟨Kd.R_nil _ _ _ _ _⟩, ⟨Kd.R_nil _ _ _ _ _⟩⟩
  case round =>
    obtain ⟨m, L, o, lf, HLm, hmg, hmn, HO, HF, HOL, HFL, HQr, HBr, HSr, HR7, HR8⟩ := hrel
    clear HQ5 HB5 HS5 HL5
    have hc0 := HQr.out.cell
    cases m with
    | zero =>
      go_wp2_with (go_at_call 35; refine (queue_Len.calls _ _ _ _).mono ?_; rintro e w6 ⟨rfl, rfl⟩)
      rw [Exit.noGoto_ret]
      go_ret2
      have e7 : o = T.filter p := by have := HO.out; simpa [drainL] using this
      have e8 : lf = T.filter fun x => !p x := by have := HF.out; simpa [drainL] using this
      rw [← e7, ← e8]
      exact ⟨_, _, rfl, Kd.R_lower HR7.out HWN0.out, Kd.R_lower HR8.out HWN0.out, HBr.out⟩
    | succ m =>
      have HPop := Aside0.mk (heap_Pop.calls q g c4 m L wr HQr.out HLm.out (by have := HL.out; have := HN.out; omega))
      obtain ⟨x, hx⟩ : ∃ x, (popL m L).getD m z24 = x := ⟨_, rfl⟩
      obtain ⟨L', hL'⟩ : ∃ L', (popL m L).take m = L' := ⟨_, rfl⟩
      have hO := HO.out
      have hF := HF.out
      simp only [drainL] at hO hF
      rw [hx, hL'] at hO hF HPop
      clear HO HF hx hL'
      have hne : (((m + 1 : Nat) : Int) == 0) = false := by simp; omega
      cases hp : p x with
      | true =>
        rw [List.filter_cons, if_pos hp] at hO
        rw [List.filter_cons, if_neg (by simp [hp])] at hF
        have HO2 : Aside0 ((o ++ [x]) ++ (drainL m L').filter p = T.filter p) := ⟨by rw [← hO]; simp⟩
        have HF2 := Aside0.mk hF
        clear hO hF
        go_wp2_with (first
          | (go_at_call 35; refine (queue_Len.calls _ _ _ _).mono ?_; rintro e w6 ⟨rfl, rfl⟩)
          | (go_at_call 36; refine HPop.out.mono ?_; rintro e w7 ⟨rfl, hQ7, hL7, hF7⟩; have hw7 : ∀ k, k < w.heap.size → w7.heap[k]? = w.heap[k]? := (fun k hk => (hF7.2 k (Nat.lt_of_lt_of_le hk HBr.out.size) (HNG.out k hk)).trans (HBr.out.block k hk)); have HW7 := Aside0.mk hw7; have HQ7 := Aside0.mk hQ7; have HL7 := Aside0.mk hL7; have HF7 := Aside0.mk hF7; clear hQ7 hL7 hF7 HPop hw7)
          | (go_at_fn km; refine (HM.out _ x (fun k hk => (Below.heap_alloc _ _ k (Nat.lt_of_lt_of_le hk (Nat.le_trans HBr.out.size HF7.out.size))).trans (HW7.out k hk))).mono ?_; rintro e w8 ⟨rfl, hb8⟩; have hbx := blk_below (blk_new w7 _) hb8; have hcd0 : w8.cell? ⟨w7.heap.size, 0, none⟩ = some (.int .i64 x.f0) := (blk_cell hbx 0).trans rfl; have hcd1 : w8.cell? ⟨w7.heap.size, 1, none⟩ = some (.int .i64 x.f1) := (blk_cell hbx 1).trans rfl; have hbb : Below w7.heap.size w7 w8 := (below_alloc (Below.refl _ _) _).trans (hb8.mono (by simp)); have HQ8 := Aside0.mk (HQ7.out.below hbb); have HR78 := Aside0.mk (Kd.R_below (R_fr HR7.out HF7.out HG0.out) hbb); have HR88 := Aside0.mk (Kd.R_below (R_fr HR8.out HF7.out HG0.out) hbb); have HB8 := Aside0.mk ((HBr.out.trans (HF7.out.toBelow HBr.out.size (fun k hk => HNG2.out k hk))).trans (hbb.mono (Nat.le_trans HBr.out.size HF7.out.size))); have HS8 := Aside0.mk (Nat.le_trans HSr.out (Nat.le_trans HF7.out.size hbb.size)); clear hbx hb8 hbb HR7 HR8 HBr HSr HQ7 HF7 HW7)
          | (at_builtin; refine Kd.R_append k24 (w0 := w8) N0 rfl (.tmp 27) (.tmp 29) 22 24 (.agg #[.int .i64 0, .int .i64 0]) 16 rfl Try.underlying22 info24 rfl (by decide) (by decide) u7 o x [.int .i64 x.f0, .int .i64 x.f1] (fun k_ => some k_ ≠ (u8 : Value).ownBlock) (fun _ => False) rfl rfl ?aP (fun _ hk => hk.elim) ?aF ?aO ?aB ?aS ?aL ?_; (case aP => exact k24_mkM _ _ _ x); (case aF => exact Kd.fresh' (Kd.R_lt HR88.out)); (case aO => exact HR78.out); (case aB => exact Below.refl _ _); (case aS => exact HS8.out); (case aL => have := HOL.out; have := HL.out; have := HN.out; omega); intro v9 w9 ho hb hg hat; have HRo := Aside0.mk (Kd.R_after (ok := fun _ => True) (Kd.R_mono HR88.out (fun _ hk => ⟨trivial, hk⟩)) hg hat); have HRm := Aside0.mk ho; have HQ9 := Aside0.mk (HQ8.out.belowN hb (HG0.out _ (.inr rfl)) (HG0.out _ (.inl rfl))); have HB9 := Aside0.mk (HB8.out.trans (hb.mono HWN0.out)); have HS9 := Aside0.mk (Nat.le_trans HS8.out hb.size); clear ho hb hg hat HR78 HR88 HQ8 HB8 HS8))
        go_roundg (m + 1)
        case measure => omega
        case rel => exact ⟨m, L', o ++ [x], lf, HL7, by omega, by omega, HO2, HF2, ⟨by have := HOL.out; simp; omega⟩, ⟨by have := HFL.out; simp; omega⟩, HQ9, HB9, HS9, ⟨HRm.out⟩, ⟨Kd.R_mono HRo.out (fun _ hk => hk.2)⟩⟩
      | false =>
        rw [List.filter_cons, if_neg (by simp [hp])] at hO
        rw [List.filter_cons, if_pos (by simp [hp])] at hF
        have HF2 : Aside0 ((lf ++ [x]) ++ (drainL m L').filter (fun x => !p x) = T.filter fun x => !p x) := ⟨by rw [← hF]; simp⟩
        have HO2 := Aside0.mk hO
        clear hO hF
        go_wp2_with (first
          | (go_at_call 35; refine (queue_Len.calls _ _ _ _).mono ?_; rintro e w6 ⟨rfl, rfl⟩)
          | (go_at_call 36; refine HPop.out.mono ?_; rintro e w7 ⟨rfl, hQ7, hL7, hF7⟩; have hw7 : ∀ k, k < w.heap.size → w7.heap[k]? = w.heap[k]? := (fun k hk => (hF7.2 k (Nat.lt_of_lt_of_le hk HBr.out.size) (HNG.out k hk)).trans (HBr.out.block k hk)); have HW7 := Aside0.mk hw7; have HQ7 := Aside0.mk hQ7; have HL7 := Aside0.mk hL7; have HF7 := Aside0.mk hF7; clear hQ7 hL7 hF7 HPop hw7)
          | (go_at_fn km; refine (HM.out _ x (fun k hk => (Below.heap_alloc _ _ k (Nat.lt_of_lt_of_le hk (Nat.le_trans HBr.out.size HF7.out.size))).trans (HW7.out k hk))).mono ?_; rintro e w8 ⟨rfl, hb8⟩; have hbx := blk_below (blk_new w7 _) hb8; have hcd0 : w8.cell? ⟨w7.heap.size, 0, none⟩ = some (.int .i64 x.f0) := (blk_cell hbx 0).trans rfl; have hcd1 : w8.cell? ⟨w7.heap.size, 1, none⟩ = some (.int .i64 x.f1) := (blk_cell hbx 1).trans rfl; have hbb : Below w7.heap.size w7 w8 := (below_alloc (Below.refl _ _) _).trans (hb8.mono (by simp)); have HQ8 := Aside0.mk (HQ7.out.below hbb); have HR78 := Aside0.mk (Kd.R_below (R_fr HR7.out HF7.out HG0.out) hbb); have HR88 := Aside0.mk (Kd.R_below (R_fr HR8.out HF7.out HG0.out) hbb); have HB8 := Aside0.mk ((HBr.out.trans (HF7.out.toBelow HBr.out.size (fun k hk => HNG2.out k hk))).trans (hbb.mono (Nat.le_trans HBr.out.size HF7.out.size))); have HS8 := Aside0.mk (Nat.le_trans HSr.out (Nat.le_trans HF7.out.size hbb.size)); clear hbx hb8 hbb HR7 HR8 HBr HSr HQ7 HF7 HW7)
          | (at_builtin; refine Kd.R_append k24 (w0 := w8) N0 rfl (.tmp 31) (.tmp 33) 22 24 (.agg #[.int .i64 0, .int .i64 0]) 16 rfl Try.underlying22 info24 rfl (by decide) (by decide) u8 lf x [.int .i64 x.f0, .int .i64 x.f1] (fun k_ => some k_ ≠ (u7 : Value).ownBlock) (fun _ => False) rfl rfl ?aP (fun _ hk => hk.elim) ?aF ?aO ?aB ?aS ?aL ?_; (case aP => exact k24_mkM _ _ _ x); (case aF => exact Kd.fresh' (Kd.R_lt HR78.out)); (case aO => exact HR88.out); (case aB => exact Below.refl _ _); (case aS => exact HS8.out); (case aL => have := HFL.out; have := HL.out; have := HN.out; omega); intro v9 w9 ho hb hg hat; have HRo := Aside0.mk (Kd.R_after (ok := fun _ => True) (Kd.R_mono HR78.out (fun _ hk => ⟨trivial, hk⟩)) hg hat); have HRm := Aside0.mk ho; have HQ9 := Aside0.mk (HQ8.out.belowN hb (HG0.out _ (.inr rfl)) (HG0.out _ (.inl rfl))); have HB9 := Aside0.mk (HB8.out.trans (hb.mono HWN0.out)); have HS9 := Aside0.mk (Nat.le_trans HS8.out hb.size); clear ho hb hg hat HR78 HR88 HQ8 HB8 HS8))
        go_roundg (m + 1)
        case measure => omega
        case rel => exact ⟨m, L', o, lf ++ [x], HL7, by omega, by omega, HO2, HF2, ⟨by have := HOL.out; simp; omega⟩, ⟨by have := HFL.out; simp; omega⟩, HQ9, HB9, HS9, ⟨Kd.R_mono HRo.out (fun _ hk => hk.2)⟩, ⟨HRm.out⟩⟩
end Go.Proofs.Yteomnodigfcfeaa.Q
