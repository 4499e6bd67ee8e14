/- beat.Take: what it computes, and that its call does so. -/
import Derived.Test.YteomnodigfcfeaaH26
namespace Go.Proofs.Yteomnodigfcfeaa.Q
open Go.RowKit Go.Proofs.YteomnodigfcfeaaW.PrintWords Go.Proofs.YteomnodigfcfeaaW.PrintLast Go.Proofs.YteomnodigfcfeaaW.PrintMore
set_option linter.unusedVariables false
set_option linter.unusedSimpArgs false

def beat_Take.f (l0 : List S24) (a1 : Int) : Option (List S24 × List Int) := if l0.length ≤ 8796093022000 ∧ (sortedL l0).length ≤ 8796093022000 then some ((sortedL l0).filter (fun x => !decide (x.f0 ≤ a1)), ((sortedL l0).filter fun x => decide (x.f0 ≤ a1)).map (·.f1)) else none

set_option maxHeartbeats 8000000 in
set_option maxRecDepth 100000 in
theorem beat_Take.calls (A0 : Option Addr) (c0 : Nat) (l0 : List S24) (a1 : Int) (r1 : List S24) (r2 : List Int) (w : World) (hr0 : Kd.C k24 w A0 l0.length l0) (hc0 : l0.length ≤ c0) (h : beat_Take.f l0 a1 = some (r1, r2)) :
    Calls Try.prog 11 #[.slice A0 l0.length c0, .int .i64 a1] w fun e w' => ∃ v0_ v1_ : Value, e = .returned (.tuple #[v0_, v1_]) ∧ Kd.R k24 24 w' w.heap.size (fun _ => True) v0_ r1 ∧ Kd.R (Kd.int .i64) 3 w' w.heap.size (fun _ => True) v1_ r2 ∧ Below w.heap.size w w' := by
  unfold beat_Take.f at h
  by_cases hl : l0.length ≤ 8796093022000 ∧ (sortedL l0).length ≤ 8796093022000
  · rw [if_pos hl] at h
    simp only [Option.some.injEq, Prod.mk.injEq] at h
    obtain ⟨rfl, rfl⟩ := h
    obtain ⟨hl, hls⟩ := hl
    have hK := beat_ordered.all A0 c0 l0 26 #[.pointer (some ⟨w.heap.size, 0, none⟩)] (fun x => decide (x.f0 ≤ a1)) (w.alloc (.cells #[.int .i64 a1] 3)) (Kd.C_alloc hr0 _) hl eK26 (fun X x hX => by
      have hb : X.heap[w.heap.size]? = some (.cells #[.int .i64 a1] 3 (0, 0)) := (hX _ (by simp)).trans (blk_new _ _)
      exact beat_Take1.calls x.f0 x.f1 a1 w.heap.size X ((blk_cell hb 0).trans rfl) (blk_lt hb))
    have HK := Aside0.mk hK
    obtain ⟨off, hoff⟩ : ∃ t, (sortedL l0).filter (fun x => decide (x.f0 ≤ a1)) = t := ⟨_, rfl⟩
    obtain ⟨lft, hlft⟩ : ∃ t, (sortedL l0).filter (fun x => !decide (x.f0 ≤ a1)) = t := ⟨_, rfl⟩
    have hol : off.length ≤ 8796093022000 := by rw [← hoff]; exact Nat.le_trans (List.length_filter_le _ _) hls
    rw [hoff, hlft] at HK ⊢
    clear hK hr0 hoff hlft hls hl
    go_enter Try.func11, Try.ntmps11
    go_wp2_with (go_at_call 25; refine HK.out.mono ?_; rintro e w5 ⟨v1, v2, rfl, hR1, hR2, hb⟩; have HR1 := Aside0.mk (Kd.R_mono (ok' := fun _ => True) (Kd.R_lower hR1 (by simp : w.heap.size ≤ (w.alloc (.cells #[.int .i64 a1] 3)).heap.size)) (fun _ _ => trivial)); have HR2 := Aside0.mk (Kd.R_mono (ok' := fun _ => True) (Kd.R_lower hR2 (by simp : w.heap.size ≤ (w.alloc (.cells #[.int .i64 a1] 3)).heap.size)) (fun _ _ => trivial)); have HB := Aside0.mk ((below_alloc (Below.refl w.heap.size w) _).trans (hb.mono (by simp))); obtain ⟨A1, c1, rfl⟩ := Kd.R_slice hR1; clear HK hR1 hR2 hb)
    go_loopg [8, 19] (off.length + 1) (fun gg v8 v19 wr => ∃ (i : Nat) (o : List Int), v19 = .int .i64 i ∧ i ≤ off.length ∧ off.length - i < gg ∧ Aside0 (o = (off.take i).map (·.f1)) ∧ Aside0 (Kd.R (Kd.int .i64) 3 wr w.heap.size (fun _ => True) v8 o) ∧ Aside0 (Kd.R k24 24 wr w.heap.size (fun _ => True) (.slice A1 off.length c1) off) ∧ Aside0 (Kd.R k24 24 wr w.heap.size (fun _ => True) v2 lft) ∧ Aside0 (Below w.heap.size w wr))
    case atStart => exact ⟨0, [], rfl, Nat.zero_le _, by omega, ⟨rfl⟩, ⟨Kd.R_nil _ _ _ _ _⟩, HR1, HR2, HB⟩
    case round =>
      obtain ⟨i, o, rfl, hi, hig, HO, HRo, HRa, HRb, HBr⟩ := hrel
      clear HR1 HR2 HB
      by_cases c : i < off.length
      · have cz : (i : Int) < (off.length : Int) := by omega
        have cz0 : (0 : Int) ≤ (i : Int) := by omega
        obtain ⟨ad, e1, hx0, hx1⟩ := at_T24 (Kd.R_reads' HRa.out).2.2 (i : Int) cz0 cz
        cases e1
        rw [show rd_T24 off (i : Int) = off[i] by simp [rd_T24, c], Int.toNat_natCast] at hx0 hx1
        have htk : (off.take (i + 1)).map (·.f1) = (off.take i).map (·.f1) ++ [off[i].f1] := by
          rw [List.take_succ_eq_append_getElem c, List.map_append]
          rfl
        have hon : o.length ≤ off.length := by rw [HO.out, List.length_map, List.length_take]; omega
        generalize off[i] = x at hx0 hx1 htk
        have HO2 : Aside0 (o ++ [x.f1] = (off.take (i + 1)).map (·.f1)) := ⟨by rw [htk, HO.out]⟩
        have HLO : Aside0 ((o.length + 1) * 8 ≤ 140737488355328) := ⟨by omega⟩
        clear htk hon
        go_wp2_with (at_builtin; refine Kd.R_append (Kd.int .i64) (w0 := w) w.heap.size rfl (.tmp 23) (.tmp 26) 28 3 (.int .i64 0) 8 rfl Try.underlying28 info3 rfl (by decide) (by decide) u8 o x.f1 [.int .i64 x.f1] (fun _ => True) (fun _ => False) rfl (by rw [World.size_alloc]; rfl) ?aP (fun _ hk => hk.elim) ?aF ?aO ?aB ?aS ?aL ?_; (case aP => exact rfl); (case aF => exact fun _ _ => trivial); (case aO => exact Kd.R_alloc HRo.out _); (case aB => exact below_alloc HBr.out _); (case aS => exact Nat.le_trans HBr.out.size (by simp)); (case aL => exact HLO.out); intro v9 w9 ho hb hg hat; have HRo9 := Aside0.mk ho; have HRa9 := Aside0.mk (Kd.R_over' (Kd.R_alloc HRa.out _) (Kd.R_typed (Kd.R_alloc HRo.out _)) (by decide) hg); have HRb9 := Aside0.mk (Kd.R_over' (Kd.R_alloc HRb.out _) (Kd.R_typed (Kd.R_alloc HRo.out _)) (by decide) hg); have HB9 := Aside0.mk hb; clear ho hb hg hat HRo HRa HRb HBr)
        go_roundg (off.length - i)
        case measure => omega
        case rel => exact ⟨i + 1, _, by go_num, by omega, by omega, HO2, HRo9, HRa9, HRb9, HB9⟩
      · obtain rfl : i = off.length := by omega
        have cz : ¬ (off.length : Int) < (off.length : Int) := by omega
        go_wp2
        go_ret2
        have e8 := HO.out
        rw [List.take_length] at e8
        rw [← e8]
        exact ⟨_, _, rfl, HRb.out, HRo.out, HBr.out⟩
  · rw [if_neg hl] at h; cases h
end Go.Proofs.Yteomnodigfcfeaa.Q
