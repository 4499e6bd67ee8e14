/- PoolStays: its walk: whatever is done, one thing behind the other, the pool in the box stays right. -/
import Derived.Test.YtgiofigjnchfeaaL19
import Derived.Test.YtgiofigjnchfeaaV2
import Derived.Test.YtgiofigjnchfeaaH10
namespace Go.Proofs.Ytgiofigjnchfeaa.Q
open Go.RowKit Go.Proofs.YtgiofigjnchfeaaW.PrintWords Go.Proofs.YtgiofigjnchfeaaW.PrintLast Go.Proofs.YtgiofigjnchfeaaW.PrintMore
set_option linter.unusedVariables false
set_option linter.unusedSimpArgs false

/-- The box gp holds a right pool of b slots at most. -/
def PInv (w W : World) (gp b : Nat) : Prop := ∃ (M : List Int) (L : List S29) (A0 A : Option Addr) (c0 c : Nat), RightL M L ∧ L.length ≤ b ∧
  W.heap[gp]? = some (.cells #[.slice A0 M.length c0, .slice A L.length c] 25 (0, 0)) ∧
  Kd.V (Kd.int .i64) 3 W w.heap.size (fun k => k ≠ gp) (.slice A0 M.length c0) M ∧ Kd.V k29 29 W w.heap.size (fun k => k ≠ gp) (.slice A L.length c) L ∧
  w.heap.size ≤ gp ∧ Below w.heap.size w W
theorem PInv.mono {w W : World} {gp b b' : Nat} (h : PInv w W gp b) (hb : b ≤ b') : PInv w W gp b' := by
  obtain ⟨M, L, A0, A, c0, c, h1, h2, h3⟩ := h
  exact ⟨M, L, A0, A, c0, c, h1, Nat.le_trans h2 hb, h3⟩
theorem PInv.below {w W W' : World} {gp b : Nat} (h : PInv w W gp b) (hb : Below W.heap.size W W') : PInv w W' gp b := by
  obtain ⟨M, L, A0, A, c0, c, h1, h2, h3, h4, h5, h6, h7⟩ := h
  exact ⟨M, L, A0, A, c0, c, h1, h2, blk_below h3 hb, Kd.V_below h4 hb, Kd.V_below h5 hb, h6, h7.trans (hb.mono h7.size)⟩
/-- What a call told is put into the box. -/
theorem PInv.put {w W W' : World} {gp b : Nat} {cs : Array Value} {M : List Int} {L : List S29} {A0 A : Option Addr} {c0 c : Nat} (hbk : W.heap[gp]? = some (.cells cs 25 (0, 0))) (hcs : ∃ u v, cs = #[u, v]) (hge : w.heap.size ≤ gp) (hB : Below w.heap.size w W) (hb : Below W.heap.size W W')
    (hv0 : Kd.V (Kd.int .i64) 3 W' W.heap.size (fun k => (k ≠ gp ∨ k ≠ gp) ∨ W.heap.size ≤ k) (.slice A0 M.length c0) M) (hv1 : Kd.V k29 29 W' W.heap.size (fun k => (k ≠ gp ∨ k ≠ gp) ∨ W.heap.size ≤ k) (.slice A L.length c) L) (hr : RightL M L) (hl : L.length ≤ b) :
    PInv w ((W'.setCell ⟨gp, 0, none⟩ (.slice A0 M.length c0)).setCell ⟨gp, 1, none⟩ (.slice A L.length c)) gp b := by
  obtain ⟨u, v, rfl⟩ := hcs
  have hlt := blk_lt hbk
  have hok : ∀ k, (k ≠ gp ∨ k ≠ gp) ∨ W.heap.size ≤ k → k ≠ gp := fun k hk => by omega
  have hbk' := blk_below hbk hb
  refine ⟨M, L, A0, A, c0, c, hr, hl, ?_, ?_, ?_, hge, below_set (below_set (hB.trans (hb.mono hB.size)) hge) hge⟩
  · exact blk_put (cs := #[.slice A0 M.length c0, v]) (blk_put (cs := #[u, v]) hbk' 0 _ rfl) 1 _ rfl
  · exact Kd.V_far (p := ⟨gp, 1, none⟩) (Kd.V_far (p := ⟨gp, 0, none⟩) (Kd.V_mono hv0 hok) (fun k hk => hk) _) (fun k hk => hk) _
  · exact Kd.V_far (p := ⟨gp, 1, none⟩) (Kd.V_far (p := ⟨gp, 0, none⟩) (Kd.V_mono hv1 hok) (fun k hk => hk) _) (fun k hk => hk) _

theorem PInv.first {w W : World} {gp : Nat} {u v : Value} {M : List Int} {A0 A : Option Addr} {c0 c : Nat} (hbk : W.heap[gp]? = some (.cells #[u, v] 25 (0, 0))) (hge : w.heap.size ≤ gp) (hB : Below w.heap.size w W)
    (hv0 : Kd.V (Kd.int .i64) 3 W w.heap.size (fun k => True ∧ k ≠ gp) (.slice A0 M.length c0) M) (hv1 : Kd.V k29 29 W w.heap.size (fun k => True ∧ k ≠ gp) (.slice A 0 c) ([] : List S29)) (hr : RightL M []) :
    PInv w ((W.setCell ⟨gp, 0, none⟩ (.slice A0 M.length c0)).setCell ⟨gp, 1, none⟩ (.slice A 0 c)) gp 0 := by
  refine ⟨M, [], A0, A, c0, c, hr, Nat.le_refl _, ?_, ?_, ?_, hge, below_set (below_set hB hge) hge⟩
  · exact blk_put (cs := #[.slice A0 M.length c0, v]) (blk_put (cs := #[u, v]) hbk 0 _ rfl) 1 _ rfl
  · exact Kd.V_far (p := ⟨gp, 1, none⟩) (Kd.V_far (p := ⟨gp, 0, none⟩) (Kd.V_mono hv0 fun k hk => hk.2) (fun k hk => hk) _) (fun k hk => hk) _
  · exact Kd.V_far (p := ⟨gp, 1, none⟩) (Kd.V_far (p := ⟨gp, 0, none⟩) (Kd.V_mono hv1 fun k hk => hk.2) (fun k hk => hk) _) (fun k hk => hk) _
/-- The four numbers at the place i, in any later world. -/
theorem four_at {w : World} {A : Option Addr} {l : List S29} (hC : Kd.C k29 w A l.length l) (i : Nat) (hi : i < l.length) : ∃ ad, A = some ad ∧ ∀ W, Below w.heap.size w W →
    W.cell? (ad.add (i * 4)) = some (.int .i64 (rd_T29 l i).f0) ∧ W.cell? ⟨(ad.add (i * 4)).block, (ad.add (i * 4)).off + 1, none⟩ = some (.int .i64 (rd_T29 l i).f1) ∧
    W.cell? ⟨(ad.add (i * 4)).block, (ad.add (i * 4)).off + 2, none⟩ = some (.int .i64 (rd_T29 l i).f2) ∧ W.cell? ⟨(ad.add (i * 4)).block, (ad.add (i * 4)).off + 3, none⟩ = some (.int .i64 (rd_T29 l i).f3) := by
  obtain ⟨ad, h, _⟩ := at_T29 hC (i : Int) (by omega) (by omega)
  refine ⟨ad, h, fun W hB => ?_⟩
  obtain ⟨ad', h', g0, g1, g2, g3⟩ := at_T29 (Kd.C_below hC hB) (i : Int) (by omega) (by omega)
  obtain rfl : ad = ad' := Option.some.inj (h.symm.trans h')
  rw [Int.toNat_natCast] at g0 g1 g2 g3
  exact ⟨g0, g1, g2, g3⟩

theorem PInv.hB {w W : World} {gp b : Nat} (h : PInv w W gp b) : Below w.heap.size w W := by
  obtain ⟨M, L, A0, A, c0, c, h1, h2, h3, h4, h5, h6, h7⟩ := h
  exact h7

set_option maxHeartbeats 16000000 in
set_option maxRecDepth 100000 in
theorem interchangelaw13_PoolStays.calls (n : Int) (A : Option Addr) (c : Nat) (l : List S29) (w : World) (hC : Kd.C k29 w A l.length l) (hc : l.length ≤ c) :
    Calls Try.prog 9 #[.int .i64 n, .slice A l.length c] w fun e w' => e = .returned (.bool true) ∧ Below w.heap.size w w' := by
  have hu25 := Try.underlying25
  have hu29 := Try.underlying29
  have HC := Aside0.mk hC
  have HCC := Aside0.mk hc
  obtain ⟨ks, hks⟩ := shown_ev.run
  have HSH := Aside0.mk hks
  obtain ⟨M0, hnew, hr0⟩ := New_right n
  have HNW := Aside0.mk hnew
  have HR0 := Aside0.mk hr0
  clear hC hc hks hnew hr0
  by_cases hbig : (l.length : Int) > 100
  · have hb0 : decide (100 < (l.length : Int)) = true := decide_eq_true hbig
    have hb1 : decide (100 < l.length) = true := decide_eq_true (by omega)
    clear hbig
    go_enter Try.func9, Try.ntmps9
    go_wp2_with (go_at_call 10; refine (interchangelaw13_shown.calls ks true _ ⟨rfl⟩ HSH.out).mono ?_; rintro e w1 ⟨rfl, hb⟩; have HB := Aside0.mk hb; clear hb)
    go_ret
    exact ⟨rfl, HB.out⟩
  · have hb0 : decide (100 < (l.length : Int)) = false := decide_eq_false hbig
    have hb1 : decide (100 < l.length) = false := decide_eq_false (by omega)
    have hl100 : l.length ≤ 100 := by omega
    clear hbig
    go_enter Try.func9, Try.ntmps9
    go_wp2_with (first
      | (go_at_call 10; refine (interchangelaw13_shown.calls ks true _ ⟨rfl⟩ HSH.out).mono ?_; rintro e w1 ⟨rfl, hb⟩; have HB := Aside0.mk hb; clear hb)
      | (go_at_call 28; refine (pool_New.calls n M0 [] _ HNW.out).mono ?_; rintro e w2 ⟨v0, v1, rfl, hv0, hv1, hb⟩; obtain ⟨A0, c0, rfl⟩ := Kd.R_slice hv0; obtain ⟨A1, c1, rfl⟩ := Kd.R_slice hv1; have HV0 := Aside0.mk (Kd.R_V (base' := w.heap.size) hv0); have HV1 := Aside0.mk (Kd.R_V (base' := w.heap.size) hv1); have HB2 := Aside0.mk (below_step HB.out hb); clear hv0 hv1 hb HB)
      | ((with_reducible refine gate_dst (N := 6) rfl ?_); refine box_event ?hg (N := 6) ?hd (cs := #[.slice none 0 0, .slice none 0 0]) (t := 25) ?hr ?_; (case hd => rfl); (case hg => rfl); (case hr => first | (go_simp; done) | (go_simp; rfl)); intro gp hg w3 hbox hb; have HBX := Aside0.mk hbox; have HGE : Aside0 (w.heap.size ≤ gp) := ⟨by rw [hg]; exact HB2.out.size⟩; have n0 := Aside0.mk (Kd.V_below (Kd.V_elderB HV0.out gp (Nat.le_of_eq hg.symm)) hb); have n1 := Aside0.mk (Kd.V_below (Kd.V_elderB HV1.out gp (Nat.le_of_eq hg.symm)) hb); have nB := Aside0.mk (below_step HB2.out hb); clear HV0 HV1 HB2 hb hg hbox; have HV0 := n0; have HV1 := n1; have HB3 := nB; clear n0 n1 nB; have hcz0 : w3.cell? ⟨gp, 0, none⟩ = some (.slice none 0 0) := (blk_cell HBX.out 0).trans rfl; have hcz1 : w3.cell? ⟨gp, 1, none⟩ = some (.slice none 0 0) := (blk_cell HBX.out 1).trans rfl; have hfz0 := blk_frozen HBX.out 0; have hfz1 := blk_frozen HBX.out 1))
    have HP0 : Aside0 (PInv w ((w3.setCell ⟨gp, 0, none⟩ (.slice A0 M0.length c0)).setCell ⟨gp, 1, none⟩ (.slice A1 0 c1)) gp 0) := ⟨PInv.first HBX.out HGE.out HB3.out HV0.out HV1.out HR0.out⟩
    clear HBX HGE HB3 HV0 HV1 HR0 hcz0 hcz1 hfz0 hfz1 HNW HSH
    go_loopg [7] (l.length + 1) (fun gg v7 wr => ∃ i : Nat, v7 = .int .i64 i ∧ Aside0 (i + gg = l.length + 1) ∧ Aside0 (PInv w wr gp i))
    case atStart => exact ⟨0, rfl, ⟨by omega⟩, HP0⟩
    case round =>
      obtain ⟨i, rfl, HI, HP⟩ := hrel
      clear HP0
      by_cases hlt : i < l.length
      · have hlt0 : decide ((i : Int) < (l.length : Int)) = true := decide_eq_true (by omega)
        have hlt1 : decide (i < l.length) = true := decide_eq_true hlt
        have hi0 : (0 : Int) ≤ (i : Int) := by omega
        have hi1 : (i : Int) < (l.length : Int) := by omega
        obtain ⟨ad, rfl, h4⟩ := four_at HC.out i hlt
        have H4 := Aside0.mk h4
        clear h4
        obtain ⟨g0, g1, g2, g3⟩ := H4.out wr HP.out.hB
        -- ROUND
        go_upto_if 39 with (fail)
        go_cut [8] (fun v8 wc => v8 = .int .i64 (rd_T29 l i).f1 ∧ Aside0 (PInv w wc gp (i)))
        case first =>
          by_cases h0 : (rd_T29 l i).f0 = 0
          · have h0b : ((rd_T29 l i).f0 == 0) = true := beq_iff_eq.2 h0
            clear h0
            obtain ⟨M, L, B0, B1, d0, d1, hr, hl, hbk, hv0, hv1, hge, hB⟩ := HP.out
            obtain ⟨M', e, hf, hr'⟩ := Up_right hr (rd_T29 l i).f1 (rd_T29 l i).f2
            have HBK := Aside0.mk hbk
            have HQ := Aside0.mk (And.intro hge hB)
            have HR' := Aside0.mk hr'
            have HL' : Aside0 (L.length ≤ i) := ⟨hl⟩
            have HCALL := Aside0.mk (pool_Up.calls 1 (fun k => k ≠ gp) B0 d0 M (fun k => k ≠ gp) B1 d1 L (rd_T29 l i).f1 (rd_T29 l i).f2 M' L e _ hv0 hv1 hf)
            have z0 := (blk_cell HBK.out 0).trans rfl
            have z1 := (blk_cell HBK.out 1).trans rfl
            clear hf hr' hl hbk hv0 hv1 hge hB hr
            go_wp2_with (go_at_call 30; refine HCALL.out.mono ?_; rintro e5 w5 ⟨v0, v1, rfl, ho0, ho1, hb⟩; obtain ⟨A5, k5, rfl⟩ := Kd.V_slice ho0; obtain ⟨A6, k6, rfl⟩ := Kd.V_slice ho1; have hbk5 := blk_below HBK.out hb; have HO := Aside0.mk (And.intro hb (And.intro ho0 ho1)); have y0 := (blk_cell hbk5 0).trans rfl; have y1 := (blk_cell hbk5 1).trans rfl; have x0 := blk_frozen hbk5 0; have x1 := blk_frozen hbk5 1; clear hbk5 hb ho0 ho1)
            go_meet
            case rel => exact ⟨rfl, ⟨PInv.put HBK.out ⟨_, _, rfl⟩ HQ.out.1 HQ.out.2 HO.out.1 HO.out.2.1 HO.out.2.2 HR'.out HL'.out⟩⟩
          · have h0b : ((rd_T29 l i).f0 == 0) = false := beq_eq_false_iff_ne.2 h0
            clear h0
            go_wp2
            go_meet
            case rel => exact ⟨rfl, ⟨HP.out.mono (by omega)⟩⟩
        case rest =>
          obtain ⟨rfl, HPn⟩ := hcut
          clear HP g0 g1 g2 g3
          have HP := HPn
          clear HPn
          obtain ⟨g0, g1, g2, g3⟩ := H4.out wc HP.out.hB
          go_upto_if 52 with (fail)
          go_cut [8] (fun v8 wc => v8 = .int .i64 (rd_T29 l i).f1 ∧ Aside0 (PInv w wc gp (i)))
          case first =>
            by_cases h0 : (rd_T29 l i).f0 = 1
            · have h0b : ((rd_T29 l i).f0 == 1) = true := beq_iff_eq.2 h0
              clear h0
              obtain ⟨M, L, B0, B1, d0, d1, hr, hl, hbk, hv0, hv1, hge, hB⟩ := HP.out
              obtain ⟨M', L', o, hf, hr', hl'⟩ := Down_right hr (by omega) (rd_T29 l i).f1
              have HBK := Aside0.mk hbk
              have HQ := Aside0.mk (And.intro hge hB)
              have HR' := Aside0.mk hr'
              have HL' : Aside0 (L'.length ≤ i) := ⟨(Nat.le_trans hl' hl)⟩
              have HCALL := Aside0.mk (pool_Down.calls (fun k => k ≠ gp) B0 d0 M (fun k => k ≠ gp) B1 d1 L (rd_T29 l i).f1 M' L' o _ hv0 hv1 hf)
              have z0 := (blk_cell HBK.out 0).trans rfl
              have z1 := (blk_cell HBK.out 1).trans rfl
              clear hf hr' hl hbk hv0 hv1 hge hB hr hl'
              go_wp2_with (go_at_call 17; refine HCALL.out.mono ?_; rintro e5 w5 ⟨v0, v1, v2, rfl, ho0, ho1, ho2, hb⟩; obtain ⟨A5, k5, rfl⟩ := Kd.V_slice ho0; obtain ⟨A6, k6, rfl⟩ := Kd.V_slice ho1; have hbk5 := blk_below HBK.out hb; have HO := Aside0.mk (And.intro hb (And.intro (Kd.V_mono ho0 fun k hk => hk.1) (Kd.V_mono ho1 fun k hk => hk.1))); have y0 := (blk_cell hbk5 0).trans rfl; have y1 := (blk_cell hbk5 1).trans rfl; have x0 := blk_frozen hbk5 0; have x1 := blk_frozen hbk5 1; clear hbk5 hb ho0 ho1)
              go_meet
              case rel => exact ⟨rfl, ⟨PInv.put HBK.out ⟨_, _, rfl⟩ HQ.out.1 HQ.out.2 HO.out.1 HO.out.2.1 HO.out.2.2 HR'.out HL'.out⟩⟩
            · have h0b : ((rd_T29 l i).f0 == 1) = false := beq_eq_false_iff_ne.2 h0
              clear h0
              go_wp2
              go_meet
              case rel => exact ⟨rfl, ⟨HP.out.mono (by omega)⟩⟩
          case rest =>
            obtain ⟨rfl, HPn⟩ := hcut
            clear HP g0 g1 g2 g3
            have HP := HPn
            clear HPn
            obtain ⟨g0, g1, g2, g3⟩ := H4.out wc HP.out.hB
            go_upto_if 64 with (fail)
            go_cut [8] (fun v8 wc => v8 = .int .i64 (rd_T29 l i).f1 ∧ Aside0 (PInv w wc gp (i + 1)))
            case first =>
              by_cases h0 : (rd_T29 l i).f0 = 2
              · have h0b : ((rd_T29 l i).f0 == 2) = true := beq_iff_eq.2 h0
                clear h0
                obtain ⟨M, L, B0, B1, d0, d1, hr, hl, hbk, hv0, hv1, hge, hB⟩ := HP.out
                obtain ⟨L', a, b, c', d, e, hf, hr', hl'⟩ := Lease_right hr (by omega) (rd_T29 l i).f3
                have HBK := Aside0.mk hbk
                have HQ := Aside0.mk (And.intro hge hB)
                have HR' := Aside0.mk hr'
                have HL' : Aside0 (L'.length ≤ i + 1) := ⟨(by omega)⟩
                have HCALL := Aside0.mk (pool_Lease.calls (fun k => k ≠ gp) B0 d0 M (fun k => k ≠ gp) B1 d1 L (rd_T29 l i).f3 M L' a b c' d e _ (Kd.V_drew hv0) (Kd.V_drew hv1) hf)
                have z0 := (blk_cell HBK.out 0).trans rfl
                have z1 := (blk_cell HBK.out 1).trans rfl
                clear hf hr' hl hbk hv0 hv1 hge hB hr hl'
                go_wp2
                refine start_ (n := 12) (S := (fun w' => w'.cell? ⟨gp, 0, none⟩ = some (.slice B0 M.length d0) ∧ w'.cell? ⟨gp, 1, none⟩ = some (.slice B1 L.length d1) ∧ w'.cell? ⟨(ad.add (i * 4)).block, (ad.add (i * 4)).off + 3, none⟩ = some (.int .i64 (rd_T29 l i).f3))) (ds := [11]) #[false, false, false, false, false, false, false, false, false, false, false, false] (by kernel_rfl) rfl rfl ⟨z0, z1, g3⟩ (fun hHeld => ?_)
                refine take_ (i := 0) (N := some 66) (v := ?_) (a' := ?_) #[true, false, false, false, false, false, false, false, false, false, false, false] rfl rfl (by kernel_rfl) (fun _ _ _ h => h) (Or.inl ⟨by rfl, ?_⟩) hHeld ?_ ?_
                rotate_left
                · rintro w' ⟨q0, q1, q3⟩
                  go_simp
                  try with_reducible rfl
                rotate_left
                · simp only [Act.put, List.setIfInBounds_toArray, List.set_cons_zero, List.set_cons_succ, i64_w, i32_w]
                  rfl
                refine take_ (i := 1) (N := some 67) (v := ?_) (a' := ?_) #[true, true, false, false, false, false, false, false, false, false, false, false] rfl rfl (by kernel_rfl) (fun _ _ _ h => h) (Or.inl ⟨by rfl, ?_⟩) hHeld ?_ ?_
                rotate_left
                · rintro w' ⟨q0, q1, q3⟩
                  go_simp
                  try with_reducible rfl
                rotate_left
                · simp only [Act.put, List.setIfInBounds_toArray, List.set_cons_zero, List.set_cons_succ, i64_w, i32_w]
                  rfl
                refine take_ (i := 2) (N := some 68) (v := ?_) (a' := ?_) #[true, true, true, false, false, false, false, false, false, false, false, false] rfl rfl (by kernel_rfl) (fun _ _ _ h => h) (Or.inl ⟨by rfl, ?_⟩) hHeld ?_ ?_
                rotate_left
                · rintro w' ⟨q0, q1, q3⟩
                  go_simp
                  try with_reducible rfl
                rotate_left
                · simp only [Act.put, List.setIfInBounds_toArray, List.set_cons_zero, List.set_cons_succ, i64_w, i32_w]
                  rfl
                refine take_ (i := 3) (N := some 69) (v := ?_) (a' := ?_) #[true, true, true, true, false, false, false, false, false, false, false, false] rfl rfl (by kernel_rfl) (fun _ _ _ h => h) (Or.inl ⟨by rfl, ?_⟩) hHeld ?_ ?_
                rotate_left
                · rintro w' ⟨q0, q1, q3⟩
                  go_simp
                  try with_reducible rfl
                rotate_left
                · simp only [Act.put, List.setIfInBounds_toArray, List.set_cons_zero, List.set_cons_succ, i64_w, i32_w]
                  rfl
                refine take_ (i := 4) (N := some 70) (v := ?_) (a' := ?_) #[true, true, true, true, true, false, false, false, false, false, false, false] rfl rfl (by kernel_rfl) (fun _ _ _ h => h) (Or.inl ⟨by rfl, ?_⟩) hHeld ?_ ?_
                rotate_left
                · rintro w' ⟨q0, q1, q3⟩
                  go_simp
                  try with_reducible rfl
                rotate_left
                · simp only [Act.put, List.setIfInBounds_toArray, List.set_cons_zero, List.set_cons_succ, i64_w, i32_w]
                  rfl
                refine take_ (i := 5) (N := some 71) (v := ?_) (a' := ?_) #[true, true, true, true, true, true, false, false, false, false, false, false] rfl rfl (by kernel_rfl) (fun _ _ _ h => h) (Or.inl ⟨by rfl, ?_⟩) hHeld ?_ ?_
                rotate_left
                · rintro w' ⟨q0, q1, q3⟩
                  go_simp
                  try with_reducible rfl
                rotate_left
                · simp only [Act.put, List.setIfInBounds_toArray, List.set_cons_zero, List.set_cons_succ, i64_w, i32_w]
                  rfl
                refine one_ (i := 6) (N := some 72) #[true, true, true, true, true, true, true, false, false, false, false, false] rfl rfl (by kernel_rfl) (by decide) (fun K hK => ?_)
                refine goes_ Try.func12 (by kernel_rfl) rfl #[.agg #[.slice B0 M.length d0, .slice B1 L.length d1], .int .i64 (rd_T29 l i).f3] rfl rfl rfl (by (try simp only [List.map_toArray, List.map_cons, List.map_nil]); first | done | rfl) ?_
                refine HCALL.out.mono ?_; rintro e5 w5 ⟨v0, v1, rfl, ho0, ho1, hb⟩; refine ⟨_, rfl, ?_⟩; obtain ⟨A5, k5, rfl⟩ := Kd.V_slice ho0; obtain ⟨A6, k6, rfl⟩ := Kd.V_slice ho1; have hbk5 := blk_below (blk_drew HBK.out) hb; have HO := Aside0.mk (And.intro hb (And.intro ho0 ho1)); have y3 := (H4.out _ (below_step (below_drew1 HQ.out.2) hb)).2.2.2; have y0 := (blk_cell hbk5 0).trans rfl; have y1 := (blk_cell hbk5 1).trans rfl; have x0 := blk_frozen hbk5 0; have x1 := blk_frozen hbk5 1; clear hbk5 hb ho0 ho1
                refine hK.out _ _ ⟨y0, y1, y3⟩ (fun hHeld => ?_)
                clear hK K
                refine norm_ (a' := ?_) ?_ ?_
                rotate_left
                · show Act.put _ (some 72) _ = _
                  simp only [Act.put, List.setIfInBounds_toArray, List.set_cons_zero, List.set_cons_succ, i64_w, i32_w]
                  rfl
                refine take_ (i := 7) (N := some 65) (v := ?_) (a' := ?_) #[true, true, true, true, true, true, true, true, false, false, false, false] rfl rfl (by kernel_rfl) (fun _ _ _ h => h) (Or.inl ⟨by rfl, ?_⟩) hHeld ?_ ?_
                rotate_left
                · rintro w' ⟨q0, q1, q3⟩
                  go_simp
                  try with_reducible rfl
                rotate_left
                · simp only [Act.put, List.setIfInBounds_toArray, List.set_cons_zero, List.set_cons_succ, i64_w, i32_w]
                  rfl
                refine take_ (i := 8) (N := some 73) (v := ?_) (a' := ?_) #[true, true, true, true, true, true, true, true, true, false, false, false] rfl rfl (by kernel_rfl) (fun _ _ _ h => h) (Or.inl ⟨by rfl, ?_⟩) hHeld ?_ ?_
                rotate_left
                · rintro w' ⟨q0, q1, q3⟩
                  go_simp
                  try with_reducible rfl
                rotate_left
                · simp only [Act.put, List.setIfInBounds_toArray, List.set_cons_zero, List.set_cons_succ, i64_w, i32_w]
                  rfl
                refine pure_ (i := 9) (N := some 74) (v := ?_) (a' := ?_) #[true, true, true, true, true, true, true, true, true, true, false, false] rfl rfl (by kernel_rfl) (fun _ _ _ h => h) (Or.inl ⟨by rfl, ?_⟩) ?_ ?_
                rotate_left
                · intro w'
                  go_simp
                  try with_reducible rfl
                rotate_left
                · simp only [Act.put, List.setIfInBounds_toArray, List.set_cons_zero, List.set_cons_succ, i64_w, i32_w]
                  rfl
                refine pure_ (i := 10) (N := some 75) (v := ?_) (a' := ?_) #[true, true, true, true, true, true, true, true, true, true, true, false] rfl rfl (by kernel_rfl) (fun _ _ _ h => h) (Or.inl ⟨by rfl, ?_⟩) ?_ ?_
                rotate_left
                · intro w'
                  go_simp
                  try with_reducible rfl
                rotate_left
                · simp only [Act.put, List.setIfInBounds_toArray, List.set_cons_zero, List.set_cons_succ, i64_w, i32_w]
                  rfl
                refine last_ (i := 11) (N := none) #[true, true, true, true, true, true, true, true, true, true, true, true] rfl rfl (by kernel_rfl) (by decide) (fun K hK => ?_)
                refine skip_ (w1 := ?_) (by rfl) rfl ?_ ?_
                rotate_left
                · go_simp
                  rfl
                refine hK.out _ _ ?_
                clear hK K
                refine done_ (by kernel_rfl) ?_
                (try simp only [Act.put, List.setIfInBounds_toArray, List.set_cons_zero, List.set_cons_succ])
                go_wp2
                go_meet
                case rel => exact ⟨rfl, ⟨PInv.put (blk_drew HBK.out) ⟨_, _, rfl⟩ HQ.out.1 (below_drew1 HQ.out.2) HO.out.1 HO.out.2.1 HO.out.2.2 HR'.out HL'.out⟩⟩
              · have h0b : ((rd_T29 l i).f0 == 2) = false := beq_eq_false_iff_ne.2 h0
                clear h0
                go_wp2
                go_meet
                case rel => exact ⟨rfl, ⟨HP.out.mono (by omega)⟩⟩
            case rest =>
              obtain ⟨rfl, HPn⟩ := hcut
              clear HP g0 g1 g2 g3
              have HP := HPn
              clear HPn
              obtain ⟨g0, g1, g2, g3⟩ := H4.out wc HP.out.hB
              go_upto_if 81 with (fail)
              go_cut [8] (fun v8 wc => v8 = .int .i64 (rd_T29 l i).f1 ∧ Aside0 (PInv w wc gp (i + 1)))
              case first =>
                by_cases h0 : (rd_T29 l i).f0 = 3
                · have h0b : ((rd_T29 l i).f0 == 3) = true := beq_iff_eq.2 h0
                  clear h0
                  obtain ⟨M, L, B0, B1, d0, d1, hr, hl, hbk, hv0, hv1, hge, hB⟩ := HP.out
                  obtain ⟨L', e, hf, hr', hl'⟩ := Opened_right hr (by omega) (rd_T29 l i).f1 (rd_T29 l i).f2
                  have HBK := Aside0.mk hbk
                  have HQ := Aside0.mk (And.intro hge hB)
                  have HR' := Aside0.mk hr'
                  have HL' : Aside0 (L'.length ≤ i + 1) := ⟨(Nat.le_trans hl' hl)⟩
                  have HCALL := Aside0.mk (pool_Opened.calls (fun k => k ≠ gp) B0 d0 M (fun k => k ≠ gp) B1 d1 L (rd_T29 l i).f1 (rd_T29 l i).f2 M L' e _ hv0 hv1 hf)
                  have z0 := (blk_cell HBK.out 0).trans rfl
                  have z1 := (blk_cell HBK.out 1).trans rfl
                  clear hf hr' hl hbk hv0 hv1 hge hB hr hl'
                  go_wp2_with (go_at_call 20; refine HCALL.out.mono ?_; rintro e5 w5 ⟨v0, v1, rfl, ho0, ho1, hb⟩; obtain ⟨A5, k5, rfl⟩ := Kd.V_slice ho0; obtain ⟨A6, k6, rfl⟩ := Kd.V_slice ho1; have hbk5 := blk_below HBK.out hb; have HO := Aside0.mk (And.intro hb (And.intro ho0 ho1)); have y0 := (blk_cell hbk5 0).trans rfl; have y1 := (blk_cell hbk5 1).trans rfl; have x0 := blk_frozen hbk5 0; have x1 := blk_frozen hbk5 1; clear hbk5 hb ho0 ho1)
                  go_meet
                  case rel => exact ⟨rfl, ⟨PInv.put HBK.out ⟨_, _, rfl⟩ HQ.out.1 HQ.out.2 HO.out.1 HO.out.2.1 HO.out.2.2 HR'.out HL'.out⟩⟩
                · have h0b : ((rd_T29 l i).f0 == 3) = false := beq_eq_false_iff_ne.2 h0
                  clear h0
                  go_wp2
                  go_meet
                  case rel => exact ⟨rfl, ⟨HP.out.mono (by omega)⟩⟩
              case rest =>
                obtain ⟨rfl, HPn⟩ := hcut
                clear HP g0 g1 g2 g3
                have HP := HPn
                clear HPn
                obtain ⟨g0, g1, g2, g3⟩ := H4.out wc HP.out.hB
                go_upto_if 94 with (fail)
                go_cut [8] (fun v8 wc => v8 = .int .i64 (rd_T29 l i).f1 ∧ Aside0 (PInv w wc gp (i + 1)))
                case first =>
                  by_cases h0 : (rd_T29 l i).f0 = 4
                  · have h0b : ((rd_T29 l i).f0 == 4) = true := beq_iff_eq.2 h0
                    clear h0
                    obtain ⟨M, L, B0, B1, d0, d1, hr, hl, hbk, hv0, hv1, hge, hB⟩ := HP.out
                    obtain ⟨L', e, hf, hr', hl'⟩ := Release_right hr (by omega) (rd_T29 l i).f1 (rd_T29 l i).f2
                    have HBK := Aside0.mk hbk
                    have HQ := Aside0.mk (And.intro hge hB)
                    have HR' := Aside0.mk hr'
                    have HL' : Aside0 (L'.length ≤ i + 1) := ⟨(Nat.le_trans hl' hl)⟩
                    have HCALL := Aside0.mk (pool_Release.calls (fun k => k ≠ gp) B0 d0 M (fun k => k ≠ gp) B1 d1 L (rd_T29 l i).f1 (rd_T29 l i).f2 M L' e _ hv0 hv1 hf)
                    have z0 := (blk_cell HBK.out 0).trans rfl
                    have z1 := (blk_cell HBK.out 1).trans rfl
                    clear hf hr' hl hbk hv0 hv1 hge hB hr hl'
                    go_wp2_with (go_at_call 18; refine HCALL.out.mono ?_; rintro e5 w5 ⟨v0, v1, rfl, ho0, ho1, hb⟩; obtain ⟨A5, k5, rfl⟩ := Kd.V_slice ho0; obtain ⟨A6, k6, rfl⟩ := Kd.V_slice ho1; have hbk5 := blk_below HBK.out hb; have HO := Aside0.mk (And.intro hb (And.intro ho0 ho1)); have y0 := (blk_cell hbk5 0).trans rfl; have y1 := (blk_cell hbk5 1).trans rfl; have x0 := blk_frozen hbk5 0; have x1 := blk_frozen hbk5 1; clear hbk5 hb ho0 ho1)
                    go_meet
                    case rel => exact ⟨rfl, ⟨PInv.put HBK.out ⟨_, _, rfl⟩ HQ.out.1 HQ.out.2 HO.out.1 HO.out.2.1 HO.out.2.2 HR'.out HL'.out⟩⟩
                  · have h0b : ((rd_T29 l i).f0 == 4) = false := beq_eq_false_iff_ne.2 h0
                    clear h0
                    go_wp2
                    go_meet
                    case rel => exact ⟨rfl, ⟨HP.out.mono (by omega)⟩⟩
                case rest =>
                  obtain ⟨rfl, HPn⟩ := hcut
                  clear HP g0 g1 g2 g3
                  have HP := HPn
                  clear HPn
                  obtain ⟨g0, g1, g2, g3⟩ := H4.out wc HP.out.hB
                  go_upto_if 107 with (fail)
                  go_cut [8] (fun v8 wc => v8 = .int .i64 (rd_T29 l i).f1 ∧ Aside0 (PInv w wc gp (i + 1)))
                  case first =>
                    by_cases h0 : (rd_T29 l i).f0 = 5
                    · have h0b : ((rd_T29 l i).f0 == 5) = true := beq_iff_eq.2 h0
                      clear h0
                      obtain ⟨M, L, B0, B1, d0, d1, hr, hl, hbk, hv0, hv1, hge, hB⟩ := HP.out
                      obtain ⟨L', e, hf, hr', hl'⟩ := Clean_right hr (by omega) (rd_T29 l i).f1 (rd_T29 l i).f2
                      have HBK := Aside0.mk hbk
                      have HQ := Aside0.mk (And.intro hge hB)
                      have HR' := Aside0.mk hr'
                      have HL' : Aside0 (L'.length ≤ i + 1) := ⟨(Nat.le_trans hl' hl)⟩
                      have HCALL := Aside0.mk (pool_Clean.calls (fun k => k ≠ gp) B0 d0 M (fun k => k ≠ gp) B1 d1 L (rd_T29 l i).f1 (rd_T29 l i).f2 M L' e _ hv0 hv1 hf)
                      have z0 := (blk_cell HBK.out 0).trans rfl
                      have z1 := (blk_cell HBK.out 1).trans rfl
                      clear hf hr' hl hbk hv0 hv1 hge hB hr hl'
                      go_wp2_with (go_at_call 19; refine HCALL.out.mono ?_; rintro e5 w5 ⟨v0, v1, rfl, ho0, ho1, hb⟩; obtain ⟨A5, k5, rfl⟩ := Kd.V_slice ho0; obtain ⟨A6, k6, rfl⟩ := Kd.V_slice ho1; have hbk5 := blk_below HBK.out hb; have HO := Aside0.mk (And.intro hb (And.intro ho0 ho1)); have y0 := (blk_cell hbk5 0).trans rfl; have y1 := (blk_cell hbk5 1).trans rfl; have x0 := blk_frozen hbk5 0; have x1 := blk_frozen hbk5 1; clear hbk5 hb ho0 ho1)
                      go_meet
                      case rel => exact ⟨rfl, ⟨PInv.put HBK.out ⟨_, _, rfl⟩ HQ.out.1 HQ.out.2 HO.out.1 HO.out.2.1 HO.out.2.2 HR'.out HL'.out⟩⟩
                    · have h0b : ((rd_T29 l i).f0 == 5) = false := beq_eq_false_iff_ne.2 h0
                      clear h0
                      go_wp2
                      go_meet
                      case rel => exact ⟨rfl, ⟨HP.out.mono (by omega)⟩⟩
                  case rest =>
                    obtain ⟨rfl, HPn⟩ := hcut
                    clear HP g0 g1 g2 g3
                    have HP := HPn
                    clear HPn
                    obtain ⟨g0, g1, g2, g3⟩ := H4.out wc HP.out.hB
                    obtain ⟨M, L, B0, B1, d0, d1, hr, hl, hbk, hv0, hv1, hge, hB⟩ := HP.out
                    obtain ⟨kr, hkr⟩ := Right_yes hr (by omega)
                    have q0 := Kd.V_at hv0
                    have q1 := Kd.V_at hv1
                    have HCALL := Aside0.mk (interchangeref13_Right.calls kr B0 d0 M B1 d1 L true _ (Kd.F_now q0.2.2) q0.2.1 (Kd.F_now q1.2.2) q1.2.1 hkr)
                    have z0 := (blk_cell hbk 0).trans rfl
                    have z1 := (blk_cell hbk 1).trans rfl
                    clear hkr q0 q1 hr hl hbk hv0 hv1 hge hB
                    have hil : i < 9223372036854775807 := by omega
                    go_wp2_with (go_at_call 27; refine HCALL.out.mono ?_; rintro e6 w6 ⟨rfl, hb⟩; have HP6 := Aside0.mk (HP.out.below hb); clear hb)
                    obtain ⟨k2, rfl⟩ : ∃ k2, gk = k2 + 1 := ⟨gk - 1, by have := HI.out; omega⟩
                    go_roundg k2
                    case measure => omega
                    case rel => exact ⟨i + 1, rfl, ⟨by have := HI.out; omega⟩, HP6⟩
      · have hlt0 : decide ((i : Int) < (l.length : Int)) = false := decide_eq_false (by omega)
        have hlt1 : decide (i < l.length) = false := decide_eq_false hlt
        go_wp2
        go_ret
        exact ⟨rfl, HP.out.hB⟩
end Go.Proofs.Ytgiofigjnchfeaa.Q
