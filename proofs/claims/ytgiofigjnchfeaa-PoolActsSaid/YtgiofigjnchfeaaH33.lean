/- interchangeref13.Lease at right pools: what it computes, and that its call does so. -/
import Derived.Test.YtgiofigjnchfeaaL20
import Derived.Test.YtgiofigjnchfeaaQ24
import Derived.Test.YtgiofigjnchfeaaQ25
import Derived.Test.YtgiofigjnchfeaaV2
namespace Go.Proofs.Ytgiofigjnchfeaa.Q
open Go.RowKit Go.Proofs.YtgiofigjnchfeaaW.PrintWords Go.Proofs.YtgiofigjnchfeaaW.PrintLast Go.Proofs.YtgiofigjnchfeaaW.PrintMore
set_option linter.unusedVariables false
set_option linter.unusedSimpArgs false

def slotV : Option S29 → Int × Int × Int × Int × Bool
  | some s => (s.f0, s.f1, s.f2, s.f3, true)
  | none => (0, 0, 0, 0, false)
theorem refAt_l0 (M : List Int) (L : List S29) (c ch : Int) (hL : L.length ≤ 4611686018427387904) : ∀ (r i : Nat), i + r = L.length → Ev (fun k => interchangeref13_At.l0 k c ch i M L) (slotV ((L.drop i).find? (atP c ch)))
  | 0, i, hi => by
    rw [List.drop_of_length_le (by omega)]
    exact Ev.succ (h := fun _ => some _) (fun k => by simp only [interchangeref13_At.l0]; rw [if_neg (by omega)]; rfl) (Ev.const _)
  | r + 1, i, hi => by
    have hil : i < L.length := by omega
    have hn := refAt_l0 M L c ch hL r (i + 1) (by omega)
    rw [List.drop_eq_getElem_cons hil]
    have hrd := rd29_nat hil
    generalize L[i] = x at hrd
    by_cases h0 : x.f0 = c
    · by_cases h1 : x.f1 = ch
      · rw [List.find?_cons_of_pos ((atP_iff _ _ _).2 ⟨h0, h1⟩)]
        refine Ev.succ (h := fun _ => some _) (fun k => ?_) (Ev.const _)
        simp only [interchangeref13_At.l0]
        rw [if_pos (by omega), if_pos (by omega), hrd, if_pos h0, if_pos h1]
        rfl
      · rw [List.find?_cons_of_neg (by rw [atP_iff]; omega)]
        refine Ev.succ (fun k => ?_) hn
        simp only [interchangeref13_At.l0]
        rw [if_pos (by omega), if_pos (by omega), hrd, if_pos h0, if_neg h1, w64 hil hL]
    · rw [List.find?_cons_of_neg (by rw [atP_iff]; omega)]
      refine Ev.succ (fun k => ?_) hn
      simp only [interchangeref13_At.l0]
      rw [if_pos (by omega), if_pos (by omega), hrd, if_neg h0, w64 hil hL]
theorem refAt_ev (M : List Int) (L : List S29) (c ch : Int) (hL : L.length ≤ 4611686018427387904) : Ev (fun k => interchangeref13_At.f k M L c ch) (slotV (L.find? (atP c ch))) :=
  Ev.congr (h := fun k => interchangeref13_At.l0 k c ch (0 : Nat) M L) (fun k => rfl) (by have := refAt_l0 M L c ch hL L.length 0 (by omega); rwa [List.drop_zero] at this)
theorem refOf_l0 (M : List Int) (L : List S29) (who : Int) (hL : L.length ≤ 4611686018427387904) : ∀ (r i : Nat), i + r = L.length → Ev (fun k => interchangeref13_Of.l0 k who i M L) (slotV ((L.drop i).find? (ofP who)))
  | 0, i, hi => by
    rw [List.drop_of_length_le (by omega)]
    exact Ev.succ (h := fun _ => some _) (fun k => by simp only [interchangeref13_Of.l0]; rw [if_neg (by omega)]; rfl) (Ev.const _)
  | r + 1, i, hi => by
    have hil : i < L.length := by omega
    have hn := refOf_l0 M L who hL r (i + 1) (by omega)
    rw [List.drop_eq_getElem_cons hil]
    have hrd := rd29_nat hil
    generalize L[i] = x at hrd
    by_cases h0 : who ≥ 1
    · by_cases h1 : x.f3 = who
      · rw [List.find?_cons_of_pos ((ofP_iff _ _).2 ⟨h1, by omega⟩)]
        refine Ev.succ (h := fun _ => some _) (fun k => ?_) (Ev.const _)
        simp only [interchangeref13_Of.l0]
        rw [if_pos (by omega), if_pos h0, if_pos (by omega), hrd, if_pos h1]
        rfl
      · rw [List.find?_cons_of_neg (by rw [ofP_iff]; omega)]
        refine Ev.succ (fun k => ?_) hn
        simp only [interchangeref13_Of.l0]
        rw [if_pos (by omega), if_pos h0, if_pos (by omega), hrd, if_neg h1, w64 hil hL]
    · rw [List.find?_cons_of_neg (by rw [ofP_iff]; omega)]
      refine Ev.succ (fun k => ?_) hn
      simp only [interchangeref13_Of.l0]
      rw [if_pos (by omega), if_neg h0, w64 hil hL]
theorem refOf_ev (M : List Int) (L : List S29) (who : Int) (hL : L.length ≤ 4611686018427387904) : Ev (fun k => interchangeref13_Of.f k M L who) (slotV (L.find? (ofP who))) :=
  Ev.congr (h := fun k => interchangeref13_Of.l0 k who (0 : Nat) M L) (fun k => rfl) (by have := refOf_l0 M L who hL L.length 0 (by omega); rwa [List.drop_zero] at this)
set_option maxHeartbeats 8000000 in
set_option maxRecDepth 100000 in
theorem RLease_low (P0 : Nat → Prop) (A0 : Option Addr) (c0 : Nat) (l0_0 : List Int) (P1 : Nat → Prop) (A : Option Addr) (c : Nat) (l : List S29) (a1 : Int) (w : World) (hs0 : Kd.V (Kd.int .i64) 3 w w.heap.size (fun k_ => P0 k_) (.slice A0 l0_0.length c0) l0_0) (hs1 : Kd.V k29 29 w w.heap.size (fun k_ => P1 k_) (.slice A l.length c) l) (hlow : a1 < 1) :
    Calls Try.prog 33 #[.agg #[.slice A0 l0_0.length c0, .slice A l.length c], .int .i64 a1] w fun e w' => ∃ v0_ v1_ : Value, e = .returned (.tuple #[.agg #[v0_, v1_], .agg #[.int .i64 0, .int .i64 0, .int .i64 0, .int .i64 0], .int .i64 1]) ∧ Kd.V (Kd.int .i64) 3 w' w.heap.size (fun k_ => ((P0 k_ ∨ P1 k_) ∨ w.heap.size ≤ k_)) v0_ l0_0 ∧ Kd.V k29 29 w' w.heap.size (fun k_ => ((P0 k_ ∨ P1 k_) ∨ w.heap.size ≤ k_)) v1_ l ∧ Below w.heap.size w w' := by
  have HS0 := Aside0.mk hs0
  have HS1 := Aside0.mk hs1
  clear hs0 hs1
  generalize l0_0.length = n0 at *
  generalize l.length = n1 at *
  have HB1 : Aside0 ((((w.alloc (.cells #[.slice A0 n0 c0, .slice A n1 c] 25)).alloc (.cells #[.slice A0 n0 c0, .slice A n1 c] 25)).alloc (.cells Z29 29)).heap[w.heap.size + 1]? = some (.cells #[.slice A0 n0 c0, .slice A n1 c] 25 (0, 0))) := ⟨blk_alloc (by simpa using blk_new (w.alloc (.cells #[.slice A0 n0 c0, .slice A n1 c] 25)) (.cells #[.slice A0 n0 c0, .slice A n1 c] 25)) _⟩
  have HB2 : Aside0 ((((w.alloc (.cells #[.slice A0 n0 c0, .slice A n1 c] 25)).alloc (.cells #[.slice A0 n0 c0, .slice A n1 c] 25)).alloc (.cells Z29 29)).heap[w.heap.size + 1 + 1]? = some (.cells Z29 29 (0, 0))) := ⟨by simpa using blk_new ((w.alloc (.cells #[.slice A0 n0 c0, .slice A n1 c] 25)).alloc (.cells #[.slice A0 n0 c0, .slice A n1 c] 25)) (.cells Z29 29)⟩
  have HBF : Aside0 (Below w.heap.size w (((w.alloc (.cells #[.slice A0 n0 c0, .slice A n1 c] 25)).alloc (.cells #[.slice A0 n0 c0, .slice A n1 c] 25)).alloc (.cells Z29 29))) := ⟨below_alloc (below_alloc (below_alloc (Below.refl _ _) _) _) _⟩
  go_enter Try.func33, Try.ntmps33
  go_wp2
  refine bodyPost_ret (results_cct rfl _ _ (w.heap.size + 1) (w.heap.size + 1 + 1) 25 29 #[.slice A0 n0 c0, .slice A n1 c] Z29 (0, 0) (0, 0) _ _ rfl HB1.out Try.underlying25 rfl (by kernel_rfl) rfl HB2.out Try.underlying29 rfl (by kernel_rfl)) rfl ?_
  exact ⟨_, _, rfl, Kd.V_mono (Kd.V_below HS0.out HBF.out) (fun k hk => Or.inl (Or.inl hk)), Kd.V_mono (Kd.V_below HS1.out HBF.out) (fun k hk => Or.inl (Or.inr hk)), HBF.out⟩
set_option maxHeartbeats 8000000 in
set_option maxRecDepth 100000 in
theorem RLease_had (P0 : Nat → Prop) (A0 : Option Addr) (c0 : Nat) (l0_0 : List Int) (P1 : Nat → Prop) (A : Option Addr) (c : Nat) (l : List S29) (a1 : Int) (w : World) (hs0 : Kd.V (Kd.int .i64) 3 w w.heap.size (fun k_ => P0 k_) (.slice A0 l0_0.length c0) l0_0) (hs1 : Kd.V k29 29 w w.heap.size (fun k_ => P1 k_) (.slice A l.length c) l) (hlow : ¬ a1 < 1) (s : S29) (hf : l.find? (ofP a1) = some s) (hsz : l.length ≤ 4611686018427387904) :
    Calls Try.prog 33 #[.agg #[.slice A0 l0_0.length c0, .slice A l.length c], .int .i64 a1] w fun e w' => ∃ v0_ v1_ : Value, e = .returned (.tuple #[.agg #[v0_, v1_], .agg #[.int .i64 0, .int .i64 0, .int .i64 0, .int .i64 0], .int .i64 14]) ∧ Kd.V (Kd.int .i64) 3 w' w.heap.size (fun k_ => ((P0 k_ ∨ P1 k_) ∨ w.heap.size ≤ k_)) v0_ l0_0 ∧ Kd.V k29 29 w' w.heap.size (fun k_ => ((P0 k_ ∨ P1 k_) ∨ w.heap.size ≤ k_)) v1_ l ∧ Below w.heap.size w w' := by
  have HS0 := Aside0.mk hs0
  have HS1 := Aside0.mk hs1
  have hs3 : s.f3 ≠ 0 := by
    have := List.find?_some hf
    simp only [ofP, Bool.and_eq_true, beq_iff_eq, decide_eq_true_eq] at this
    omega
  obtain ⟨ko, hko⟩ := (refOf_ev l0_0 l a1 hsz).run
  rw [hf] at hko
  have HOF : Aside0 (∀ W, Below w.heap.size w W → Calls Try.prog 25 #[.agg #[.slice A0 l0_0.length c0, .slice A l.length c], .int .i64 a1] W fun e w' => e = .returned (.tuple #[.agg #[.int .i64 s.f0, .int .i64 s.f1, .int .i64 s.f2, .int .i64 s.f3], .bool true]) ∧ Below W.heap.size W w') := ⟨fun W hW => interchangeref13_Of.calls ko A0 c0 l0_0 A c l a1 s.f0 s.f1 s.f2 s.f3 true W (Kd.C_below (Kd.V_reads' hs0).2.2 hW) (Kd.V_reads' hs0).2.1 (Kd.C_below (Kd.V_reads' hs1).2.2 hW) (Kd.V_reads' hs1).2.1 hko⟩
  clear hs0 hs1 hko
  generalize l0_0.length = n0 at *
  generalize l.length = n1 at *
  have hne : ∀ W, Sem.run Try.prog (binOp BinOp.neq 29 (.agg #[.int .i64 s.f0, .int .i64 s.f1, .int .i64 s.f2, .int .i64 s.f3]) (.agg #[.int .i64 0, .int .i64 0, .int .i64 0, .int .i64 0])) W = .ok (.bool true) W := neq_slot _ _ _ _ hs3
  have HB0 : Aside0 ((((w.alloc (.cells #[.slice A0 n0 c0, .slice A n1 c] 25)).alloc (.cells #[.slice none 0 0, .slice none 0 0] 25)).alloc (.cells Z29 29)).heap[w.heap.size]? = some (.cells #[.slice A0 n0 c0, .slice A n1 c] 25 (0, 0))) := ⟨blk_alloc (blk_alloc (blk_new _ _) _) _⟩
  have HB1 : Aside0 ((((w.alloc (.cells #[.slice A0 n0 c0, .slice A n1 c] 25)).alloc (.cells #[.slice none 0 0, .slice none 0 0] 25)).alloc (.cells Z29 29)).heap[w.heap.size + 1]? = some (.cells #[.slice none 0 0, .slice none 0 0] 25 (0, 0))) := ⟨blk_alloc (by simpa using blk_new (w.alloc (.cells #[.slice A0 n0 c0, .slice A n1 c] 25)) (.cells #[.slice none 0 0, .slice none 0 0] 25)) _⟩
  have HB2 : Aside0 ((((w.alloc (.cells #[.slice A0 n0 c0, .slice A n1 c] 25)).alloc (.cells #[.slice none 0 0, .slice none 0 0] 25)).alloc (.cells Z29 29)).heap[w.heap.size + 1 + 1]? = some (.cells Z29 29 (0, 0))) := ⟨by simpa using blk_new ((w.alloc (.cells #[.slice A0 n0 c0, .slice A n1 c] 25)).alloc (.cells #[.slice none 0 0, .slice none 0 0] 25)) (.cells Z29 29)⟩
  have HBF : Aside0 (Below w.heap.size w (((w.alloc (.cells #[.slice A0 n0 c0, .slice A n1 c] 25)).alloc (.cells #[.slice none 0 0, .slice none 0 0] 25)).alloc (.cells Z29 29))) := ⟨below_alloc (below_alloc (below_alloc (Below.refl _ _) _) _) _⟩
  clear hf hs3
  go_enter Try.func33, Try.ntmps33
  go_wp2_with (go_at_call 25; refine (HOF.out _ HBF.out).mono ?_; rintro e w4 ⟨rfl, hb⟩; have b0 := blk_below HB0.out hb; have b0_0 : w4.cell? ⟨w.heap.size, 0, none⟩ = some (.slice A0 n0 c0) := (blk_cell b0 0).trans rfl; have b0_1 : w4.cell? ⟨w.heap.size, 1, none⟩ = some (.slice A n1 c) := (blk_cell b0 1).trans rfl; have b0_f := fun j => blk_frozen b0 j; have b1 := blk_below HB1.out hb; have b1_0 : w4.cell? ⟨w.heap.size + 1, 0, none⟩ = some (.slice none 0 0) := (blk_cell b1 0).trans rfl; have b1_1 : w4.cell? ⟨w.heap.size + 1, 1, none⟩ = some (.slice none 0 0) := (blk_cell b1 1).trans rfl; have b1_f := fun j => blk_frozen b1 j; have b2 := blk_below HB2.out hb; have b2_0 : w4.cell? ⟨w.heap.size + 1 + 1, 0, none⟩ = some (.int .i64 0) := (blk_cell b2 0).trans rfl; have b2_1 : w4.cell? ⟨w.heap.size + 1 + 1, 1, none⟩ = some (.int .i64 0) := (blk_cell b2 1).trans rfl; have b2_2 : w4.cell? ⟨w.heap.size + 1 + 1, 2, none⟩ = some (.int .i64 0) := (blk_cell b2 2).trans rfl; have b2_3 : w4.cell? ⟨w.heap.size + 1 + 1, 3, none⟩ = some (.int .i64 0) := (blk_cell b2 3).trans rfl; have b2_f := fun j => blk_frozen b2 j; have d0 := blk_alloc b0 (.cells #[.int .i64 s.f0, .int .i64 s.f1, .int .i64 s.f2, .int .i64 s.f3] 29); have d0_0 : (w4.alloc (.cells #[.int .i64 s.f0, .int .i64 s.f1, .int .i64 s.f2, .int .i64 s.f3] 29)).cell? ⟨w.heap.size, 0, none⟩ = some (.slice A0 n0 c0) := (blk_cell d0 0).trans rfl; have d0_1 : (w4.alloc (.cells #[.int .i64 s.f0, .int .i64 s.f1, .int .i64 s.f2, .int .i64 s.f3] 29)).cell? ⟨w.heap.size, 1, none⟩ = some (.slice A n1 c) := (blk_cell d0 1).trans rfl; have d0_f := fun j => blk_frozen d0 j; have d1 := blk_alloc b1 (.cells #[.int .i64 s.f0, .int .i64 s.f1, .int .i64 s.f2, .int .i64 s.f3] 29); have d1_0 : (w4.alloc (.cells #[.int .i64 s.f0, .int .i64 s.f1, .int .i64 s.f2, .int .i64 s.f3] 29)).cell? ⟨w.heap.size + 1, 0, none⟩ = some (.slice none 0 0) := (blk_cell d1 0).trans rfl; have d1_1 : (w4.alloc (.cells #[.int .i64 s.f0, .int .i64 s.f1, .int .i64 s.f2, .int .i64 s.f3] 29)).cell? ⟨w.heap.size + 1, 1, none⟩ = some (.slice none 0 0) := (blk_cell d1 1).trans rfl; have d1_f := fun j => blk_frozen d1 j; have d2 := blk_alloc b2 (.cells #[.int .i64 s.f0, .int .i64 s.f1, .int .i64 s.f2, .int .i64 s.f3] 29); have d2_0 : (w4.alloc (.cells #[.int .i64 s.f0, .int .i64 s.f1, .int .i64 s.f2, .int .i64 s.f3] 29)).cell? ⟨w.heap.size + 1 + 1, 0, none⟩ = some (.int .i64 0) := (blk_cell d2 0).trans rfl; have d2_1 : (w4.alloc (.cells #[.int .i64 s.f0, .int .i64 s.f1, .int .i64 s.f2, .int .i64 s.f3] 29)).cell? ⟨w.heap.size + 1 + 1, 1, none⟩ = some (.int .i64 0) := (blk_cell d2 1).trans rfl; have d2_2 : (w4.alloc (.cells #[.int .i64 s.f0, .int .i64 s.f1, .int .i64 s.f2, .int .i64 s.f3] 29)).cell? ⟨w.heap.size + 1 + 1, 2, none⟩ = some (.int .i64 0) := (blk_cell d2 2).trans rfl; have d2_3 : (w4.alloc (.cells #[.int .i64 s.f0, .int .i64 s.f1, .int .i64 s.f2, .int .i64 s.f3] 29)).cell? ⟨w.heap.size + 1 + 1, 3, none⟩ = some (.int .i64 0) := (blk_cell d2 3).trans rfl; have d2_f := fun j => blk_frozen d2 j; have BB1 := Aside0.mk b1; have BB2 := Aside0.mk b2; have BB := Aside0.mk (HBF.out.trans (hb.mono HBF.out.size)); clear b0 b1 b2 d0 d1 d2 hb)
  have HF := finW_below (B1 := w.heap.size + 1) (B2 := w.heap.size + 1 + 1) (below_alloc BB.out (.cells #[.int .i64 s.f0, .int .i64 s.f1, .int .i64 s.f2, .int .i64 s.f3] 29)) (by omega) (by omega) (.slice A0 n0 c0) (.slice A n1 c) (.int .i64 0) (.int .i64 0) (.int .i64 0) (.int .i64 0)
  refine bodyPost_ret (results_cct rfl _ _ (w.heap.size + 1) (w.heap.size + 1 + 1) 25 29 #[.slice A0 n0 c0, .slice A n1 c] Z29 (0, 0) (0, 0) _ _ rfl (finW_b1 (blk_alloc BB1.out _) (by omega) _ _ _ _ _ _) Try.underlying25 rfl (by kernel_rfl) rfl (finW_b2 (blk_alloc BB2.out _) (by omega) _ _ _ _ _ _) Try.underlying29 rfl (by kernel_rfl)) rfl ?_
  exact ⟨_, _, rfl, Kd.V_mono (Kd.V_below HS0.out HF) (fun k hk => Or.inl (Or.inl hk)), Kd.V_mono (Kd.V_below HS1.out HF) (fun k hk => Or.inl (Or.inr hk)), HF⟩
/-- The boxes of ref.Lease ahead of its last loop: v is what its box 'out' has for a row. -/
structure LB (w W : World) (A0 : Option Addr) (n0 c0 : Nat) (A : Option Addr) (n1 c : Nat) (b ch a1 : Int) (gS B : Nat) (v : Value) : Prop where
  b0 : W.heap[w.heap.size]? = some (.cells #[.slice A0 n0 c0, .slice A n1 c] 25 (0, 0))
  b1 : W.heap[w.heap.size + 1]? = some (.cells #[.slice none 0 0, .slice none 0 0] 25 (0, 0))
  b2 : W.heap[w.heap.size + 1 + 1]? = some (.cells #[.int .i64 0, .int .i64 0, .int .i64 0, .int .i64 0] 29 (0, 0))
  bS : W.heap[gS]? = some (.cells #[.int .i64 b, .int .i64 ch, .int .i64 1, .int .i64 a1] 29 (0, 0))
  bO : W.heap[gS + 1]? = some (.cells #[.slice A0 n0 c0, v] 25 (0, 0))
  hB : Below w.heap.size w W
  h1 : w.heap.size + 1 + 1 < gS
  h2 : gS + 1 < B
  hS : B ≤ W.heap.size
section
variable {w W W' : World} {A0 A : Option Addr} {n0 c0 n1 c gS B : Nat} {b ch a1 : Int} {v : Value} {r : Option Nat}
theorem LB.below (h : LB w W A0 n0 c0 A n1 c b ch a1 gS B v) (hb : Below W.heap.size W W') : LB w W' A0 n0 c0 A n1 c b ch a1 gS B v :=
  ⟨blk_below h.b0 hb, blk_below h.b1 hb, blk_below h.b2 hb, blk_below h.bS hb, blk_below h.bO hb, h.hB.trans (hb.mono h.hB.size), h.h1, h.h2, Nat.le_trans h.hS hb.size⟩
theorem LB.drew (h : LB w W A0 n0 c0 A n1 c b ch a1 gS B v) : LB w W.drew A0 n0 c0 A n1 c b ch a1 gS B v := h.below (below_drew1 (Below.refl _ _))
theorem LB.grown (h : LB w W A0 n0 c0 A n1 c b ch a1 gS B v) (hg : W.grownBy W' r) (hr : ∀ k, r = some k → B ≤ k) : LB w W' A0 n0 c0 A n1 c b ch a1 gS B v := by
  have h1 := h.h1
  have h2 := h.h2
  have ne : ∀ g, g < B → some g ≠ r := fun g hg e => by have := hr g e.symm; omega
  exact ⟨blk_grown h.b0 hg (ne _ (by omega)), blk_grown h.b1 hg (ne _ (by omega)), blk_grown h.b2 hg (ne _ (by omega)), blk_grown h.bS hg (ne _ (by omega)), blk_grown h.bO hg (ne _ (by omega)), h.hB.grown hg h.hB.size (fun k hk => by have := hr k hk; omega), h1, h2, Nat.le_trans h.hS hg.size⟩
theorem LB.put (h : LB w W A0 n0 c0 A n1 c b ch a1 gS B v) (u : Value) : LB w (W.setCell ⟨gS + 1, 1, none⟩ u) A0 n0 c0 A n1 c b ch a1 gS B u := by
  have h1 := h.h1
  exact ⟨blk_far h.b0 (by show w.heap.size ≠ gS + 1; omega) u, blk_far h.b1 (by show w.heap.size + 1 ≠ gS + 1; omega) u, blk_far h.b2 (by show w.heap.size + 1 + 1 ≠ gS + 1; omega) u, blk_far h.bS (by show gS ≠ gS + 1; omega) u, blk_put h.bO 1 u rfl, below_set h.hB (by omega), h1, h.h2, by have := h.hS; simpa [World.setCell] using this⟩
theorem LB.row {K : List S29} {ok : Nat → Prop} (h : LB w W A0 n0 c0 A n1 c b ch a1 gS B v) {x : Value} (hR : Kd.R k29 29 W B ok x K) (u : Value) : Kd.R k29 29 (W.setCell ⟨gS + 1, 1, none⟩ u) B ok x K := Kd.R_set hR h.bO (by decide) 1 u
end
theorem ins_step {K : List S29} {s x : S29} {r T : List S29} {dn q : Bool} (hq : (!dn && ltB s x) = q) (h : K ++ (if dn = true then x :: r else insL s (x :: r)) = T) :
    (if q = true then K ++ [s] else K) ++ [x] ++ (if (dn || q) = true then r else insL s r) = T := by
  subst hq
  rw [← h]
  cases dn <;> cases e : ltB s x <;> simp [insL_cons, e]
def RLease.T10 : Bool × List (List Nat × List Nat) := (true, [([], []), ([], []), ([0, 1], [0, 1]), ([], []), ([3], [3]), ([], []), ([4, 5], [4, 5]), ([6], [6]), ([2, 7], [2, 7]), ([8, 2], [8]), ([9], [9]), ([10, 9], [9, 10]), ([11, 9, 9], [9, 11]), ([12], [12]), ([12], [12]), ([13, 14, 12, 12], [12, 13, 14]), ([12], [12]), ([12], [12]), ([16, 17, 15, 12], [12, 16, 17]), ([15, 18, 12], [12, 15, 18]), ([12, 19, 9], [9, 12, 19]), ([9, 20], [9, 20])])
def RLease.B10 : List Nat := [0, 0, 3, 0, 8, 0, 56, 120, 255, 511, 1023, 2047, 4095, 8191, 8191, 32767, 8191, 8191, 262143, 524287, 1048575, 2097151]
theorem RLease.tab10 : rtab .any (opsOf Try.f33 10) = RLease.T10 := by kernel_rfl
theorem RLease.bits10 : waitsOk RLease.T10.2 RLease.B10 = true := by kernel_rfl
def RLease.T27 : Bool × List (List Nat × List Nat) := (true, [([], []), ([0], [0]), ([], []), ([2], [2]), ([], []), ([3, 4], [3, 4]), ([5], [5]), ([6], [6]), ([1, 7], [1, 7]), ([0, 1, 2, 3, 4, 5, 6, 7, 8], []), ([9, 8, 8, 0, 1, 2, 3, 4, 5, 6, 7, 8], [8, 9])])
def RLease.B27 : List Nat := [0, 1, 0, 4, 0, 28, 60, 124, 255, 511, 1023]
theorem RLease.tab27 : rtab .any (opsOf Try.f33 27) = RLease.T27 := by kernel_rfl
theorem RLease.bits27 : waitsOk RLease.T27.2 RLease.B27 = true := by kernel_rfl
theorem cnts_rd {M : List Int} {L : List S29} (h : RightL M L) (c : Nat) (hc : c < M.length) : rd (cntsL M L) c = cntN c L := by
  have := cnts_eq L (List.replicate M.length 0) c (by simpa using hc) (fun s hs => by have := h.ok s hs; rw [List.length_replicate]; exact ⟨this.1, this.2.1⟩)
  rw [rd_replicate] at this
  unfold cntsL
  omega
abbrev Pool25 (A0 : Option Addr) (n0 c0 : Nat) (A : Option Addr) (n1 c : Nat) : Array Value := #[.slice A0 n0 c0, .slice A n1 c]
set_option maxHeartbeats 32000000 in
set_option maxRecDepth 100000 in
theorem RLease_go (P0 : Nat → Prop) (A0 : Option Addr) (c0 : Nat) (l0_0 : List Int) (P1 : Nat → Prop) (A : Option Addr) (c : Nat) (l : List S29) (a1 : Int) (w : World) (r1 : List Int) (r2 : List S29) (r3 r4 r5 r6 r7 : Int) (hs0 : Kd.V (Kd.int .i64) 3 w w.heap.size (fun k_ => P0 k_) (.slice A0 l0_0.length c0) l0_0) (hs1 : Kd.V k29 29 w w.heap.size (fun k_ => P1 k_) (.slice A l.length c) l) (hlow : ¬ a1 < 1) (hf : l.find? (ofP a1) = none)
    (hR : RightL l0_0 l) (hL : l.length ≤ 200)
    (hres : (if bestTo l0_0 (cntsL l0_0 l) l0_0.length < 0 then some (l0_0, l, (0 : Int), (0 : Int), (0 : Int), (0 : Int), (12 : Int)) else
      some (l0_0, insL ⟨bestTo l0_0 (cntsL l0_0 l) l0_0.length, chL (bestTo l0_0 (cntsL l0_0 l) l0_0.length) l, 1, a1⟩ l, bestTo l0_0 (cntsL l0_0 l) l0_0.length, chL (bestTo l0_0 (cntsL l0_0 l) l0_0.length) l, 1, a1, 0)) = some (r1, r2, r3, r4, r5, r6, r7)) :
    Calls Try.prog 33 #[.agg #[.slice A0 l0_0.length c0, .slice A l.length c], .int .i64 a1] w fun e w' => ∃ v0_ v1_ : Value, e = .returned (.tuple #[.agg #[v0_, v1_], .agg #[.int .i64 r3, .int .i64 r4, .int .i64 r5, .int .i64 r6], .int .i64 r7]) ∧ Kd.V (Kd.int .i64) 3 w' w.heap.size (fun k_ => ((P0 k_ ∨ P1 k_) ∨ w.heap.size ≤ k_)) v0_ r1 ∧ Kd.V k29 29 w' w.heap.size (fun k_ => ((P0 k_ ∨ P1 k_) ∨ w.heap.size ≤ k_)) v1_ r2 ∧ Below w.heap.size w w' := by
 have hu25 := Try.underlying25
 have hu29 := Try.underlying29
 have hsz : l.length ≤ 4611686018427387904 := by omega
 obtain ⟨ko, hko⟩ := (refOf_ev l0_0 l a1 hsz).run
 rw [hf] at hko
 have HS0 := Aside0.mk hs0
 have HS1 := Aside0.mk hs1
 have HR := Aside0.mk hR
 have HRES := Aside0.mk hres
 have HC1 := Aside0.mk (Kd.V_reads' hs1).2.2
 have HC0 := Aside0.mk (Kd.V_reads' hs0).2.2
 have HOF : Aside0 (∀ W, Below w.heap.size w W → Calls Try.prog 25 #[.agg #[.slice A0 l0_0.length c0, .slice A l.length c], .int .i64 a1] W fun e w' => e = .returned (.tuple #[.agg #[.int .i64 0, .int .i64 0, .int .i64 0, .int .i64 0], .bool false]) ∧ Below W.heap.size W w') := ⟨fun W hW => interchangeref13_Of.calls ko A0 c0 l0_0 A c l a1 0 0 0 0 false W (Kd.C_below (Kd.V_reads' hs0).2.2 hW) (Kd.V_reads' hs0).2.1 (Kd.C_below (Kd.V_reads' hs1).2.2 hW) (Kd.V_reads' hs1).2.1 hko⟩
 have HMANY : Aside0 (∀ W, Below w.heap.size w W → ∀ x : Int, 0 ≤ x → x < (l0_0.length : Int) → Calls Try.prog 13 #[.agg #[.slice A0 l0_0.length c0, .slice A l.length c], .int .i64 x] W fun e w' => e = .returned (.int .i64 (rd (cntsL l0_0 l) x)) ∧ Below W.heap.size W w') := ⟨fun W hW x h0 h1 => by
  obtain ⟨n, rfl⟩ := Int.eq_ofNat_of_zero_le h0
  obtain ⟨km, hkm⟩ := (Many_ev l0_0 l (n : Int) hsz).run
  have e := cnts_rd hR n (by omega)
  rw [e]; exact interchangeref13_Many.calls km A0 c0 l0_0 A c l (n : Int) _ W (Kd.C_below (Kd.V_reads' hs0).2.2 hW) (Kd.V_reads' hs0).2.1 (Kd.C_below (Kd.V_reads' hs1).2.2 hW) (Kd.V_reads' hs1).2.1 hkm⟩
 have HATX : Aside0 (∀ W, Below w.heap.size w W → ∀ b x : Int, Calls Try.prog 24 #[.agg #[.slice A0 l0_0.length c0, .slice A l.length c], .int .i64 b, .int .i64 x] W fun e w' => e = .returned (.tuple #[.agg #[.int .i64 (slotV (l.find? (atP b x))).1, .int .i64 (slotV (l.find? (atP b x))).2.1, .int .i64 (slotV (l.find? (atP b x))).2.2.1, .int .i64 (slotV (l.find? (atP b x))).2.2.2.1], .bool (slotV (l.find? (atP b x))).2.2.2.2]) ∧ Below W.heap.size W w') := ⟨fun W hW b x => by
  obtain ⟨ka, hka⟩ := (refAt_ev l0_0 l b x hsz).run
  exact interchangeref13_At.calls ka A0 c0 l0_0 A c l b x _ _ _ _ _ W (Kd.C_below (Kd.V_reads' hs0).2.2 hW) (Kd.V_reads' hs0).2.1 (Kd.C_below (Kd.V_reads' hs1).2.2 hW) (Kd.V_reads' hs1).2.1 hka⟩
 have HB0 : Aside0 ((((w.alloc (.cells #[.slice A0 l0_0.length c0, .slice A l.length c] 25)).alloc (.cells #[.slice none 0 0, .slice none 0 0] 25)).alloc (.cells Z29 29)).heap[w.heap.size]? = some (.cells #[.slice A0 l0_0.length c0, .slice A l.length c] 25 (0, 0))) := ⟨blk_alloc (blk_alloc (blk_new _ _) _) _⟩
 have HB1 : Aside0 ((((w.alloc (.cells #[.slice A0 l0_0.length c0, .slice A l.length c] 25)).alloc (.cells #[.slice none 0 0, .slice none 0 0] 25)).alloc (.cells Z29 29)).heap[w.heap.size + 1]? = some (.cells #[.slice none 0 0, .slice none 0 0] 25 (0, 0))) := ⟨blk_alloc (by simpa using blk_new (w.alloc (.cells #[.slice A0 l0_0.length c0, .slice A l.length c] 25)) (.cells #[.slice none 0 0, .slice none 0 0] 25)) _⟩
 have HB2 : Aside0 ((((w.alloc (.cells #[.slice A0 l0_0.length c0, .slice A l.length c] 25)).alloc (.cells #[.slice none 0 0, .slice none 0 0] 25)).alloc (.cells Z29 29)).heap[w.heap.size + 1 + 1]? = some (.cells Z29 29 (0, 0))) := ⟨by simpa using blk_new ((w.alloc (.cells #[.slice A0 l0_0.length c0, .slice A l.length c] 25)).alloc (.cells #[.slice none 0 0, .slice none 0 0] 25)) (.cells Z29 29)⟩
 have HBF : Aside0 (Below w.heap.size w (((w.alloc (.cells #[.slice A0 l0_0.length c0, .slice A l.length c] 25)).alloc (.cells #[.slice none 0 0, .slice none 0 0] 25)).alloc (.cells Z29 29))) := ⟨below_alloc (below_alloc (below_alloc (Below.refl _ _) _) _) _⟩
 have hMm : l0_0.length ≤ 64 := hR.len
 have hLm : l.length ≤ 200 := hL
 have hmB1 : w.heap.size ≤ w.heap.size + 1 := by omega
 have hmB2 : w.heap.size ≤ w.heap.size + 1 + 1 := by omega
 clear hs0 hs1 hf hres hR hL hko hsz
 go_enter Try.func33, Try.ntmps33
 go_wp2_with (go_at_call 25; refine (HOF.out _ HBF.out).mono ?_; rintro e w4 ⟨rfl, hb⟩; have n0 := Aside0.mk (blk_alloc (blk_below HB0.out hb) (.cells #[.int .i64 0, .int .i64 0, .int .i64 0, .int .i64 0] 29)); have n1 := Aside0.mk (blk_alloc (blk_below HB1.out hb) (.cells #[.int .i64 0, .int .i64 0, .int .i64 0, .int .i64 0] 29)); have n2 := Aside0.mk (blk_alloc (blk_below HB2.out hb) (.cells #[.int .i64 0, .int .i64 0, .int .i64 0, .int .i64 0] 29)); have nB := Aside0.mk (below_alloc (HBF.out.trans (hb.mono HBF.out.size)) (.cells #[.int .i64 0, .int .i64 0, .int .i64 0, .int .i64 0] 29)); clear HB0 HB1 HB2 HBF hb; have HB0 := n0; have HB1 := n1; have HB2 := n2; have HB := nB; clear n0 n1 n2 nB)
 generalize w4.alloc (.cells #[.int .i64 0, .int .i64 0, .int .i64 0, .int .i64 0] 29) = wA at HB0 HB1 HB2 HB ⊢
 have HLK := Aside0.mk (Below.refl wA.heap.size wA)
 go_loopg [9, 10] (l0_0.length + 1) (fun gg v9 v10 wr => ∃ i : Nat, v10 = .int .i64 i ∧ v9 = .int .i64 (bestTo l0_0 (cntsL l0_0 l) i) ∧ i ≤ l0_0.length ∧ l0_0.length - i < gg ∧ Aside0 (Below wA.heap.size wA wr))
 case atStart => exact ⟨0, rfl, rfl, Nat.zero_le _, by omega, HLK⟩
 case round =>
  obtain ⟨i, rfl, rfl, hi2, hig2, HD⟩ := hrel
  clear HLK
  have hbr := bestTo_range l0_0 (cntsL l0_0 l) i
  have HST : Aside0 (bestTo l0_0 (cntsL l0_0 l) (i + 1) = bestStep l0_0 (cntsL l0_0 l) (bestTo l0_0 (cntsL l0_0 l) i) i) := ⟨rfl⟩
  generalize hbest : bestTo l0_0 (cntsL l0_0 l) i = b at hbr HST
  have HBEST := Aside0.mk hbest
  clear hbest
  have hp0 : wr.cell? ⟨w.heap.size, 0, none⟩ = some (.slice A0 l0_0.length c0) := (blk_cell (blk_below HB0.out HD.out) 0).trans rfl
  have hp1 : wr.cell? ⟨w.heap.size, 1, none⟩ = some (.slice A l.length c) := (blk_cell (blk_below HB0.out HD.out) 1).trans rfl
  by_cases ci : i < l0_0.length
  ·
   have cz2 : (i : Int) < (l0_0.length : Int) := by omega
   have cz0 : (0 : Int) ≤ (i : Int) := by omega
   obtain ⟨ad0, e1, hx0⟩ := Kd.at_int (Kd.C_below HC0.out (HB.out.trans (HD.out.mono HB.out.size))) (i : Int) cz0 cz2
   cases e1
   rw [Int.toNat_natCast] at hx0
   have hs : bestStep l0_0 (cntsL l0_0 l) b i = if rd (cntsL l0_0 l) (i : Int) < rd l0_0 (i : Int) then (if b < 0 then (i : Int) else if rd (cntsL l0_0 l) (i : Int) < rd (cntsL l0_0 l) b then (i : Int) else b) else b := rfl
   rw [hs] at HST
   clear hs
   have HCI := HMANY.out
   generalize hy : rd l0_0 (i : Int) = y at hx0 HST
   have HSK : Aside0 (∀ w', Below wA.heap.size wA w' → w'.cell? ⟨w.heap.size, 0, none⟩ = some (.slice (some ad0) l0_0.length c0) ∧ w'.cell? ⟨w.heap.size, 1, none⟩ = some (.slice A l.length c) ∧ w'.cell? (ad0.add i) = some (.int .i64 y)) := ⟨fun W hW => ⟨(blk_cell (blk_below HB0.out hW) 0).trans rfl, (blk_cell (blk_below HB0.out hW) 1).trans rfl, by obtain ⟨ad1, e2, h2⟩ := Kd.at_int (Kd.C_below HC0.out (HB.out.trans (hW.mono HB.out.size))) (i : Int) cz0 cz2; cases e2; rw [Int.toNat_natCast, hy] at h2; exact h2⟩⟩
   have HXI : Aside0 (∀ W, Below wA.heap.size wA W → Calls Try.prog 13 #[.agg #[.slice (some ad0) l0_0.length c0, .slice A l.length c], .int .i64 i] W fun e w' => e = .returned (.int .i64 (rd (cntsL l0_0 l) i)) ∧ Below W.heap.size W w') := ⟨fun W hW => HCI W (HB.out.trans (hW.mono HB.out.size)) i cz0 cz2⟩
   have HXB : Aside0 (0 ≤ b → ∀ W, Below wA.heap.size wA W → Calls Try.prog 13 #[.agg #[.slice (some ad0) l0_0.length c0, .slice A l.length c], .int .i64 b] W fun e w' => e = .returned (.int .i64 (rd (cntsL l0_0 l) b)) ∧ Below W.heap.size W w') := ⟨fun h0 W hW => HCI W (HB.out.trans (hW.mono HB.out.size)) b h0 (by omega)⟩
   clear HCI hy
   generalize rd (cntsL l0_0 l) (i : Int) = x at HST HXI
   generalize rd (cntsL l0_0 l) b = z at HST HXB
   go_upto_region 10 with (fail)
   refine start_ (n := 22) (S := (fun w' => w'.cell? ⟨w.heap.size, 0, none⟩ = some (.slice (some ad0) l0_0.length c0) ∧ w'.cell? ⟨w.heap.size, 1, none⟩ = some (.slice A l.length c) ∧ w'.cell? (ad0.add i) = some (.int .i64 y))) (ds := []) #[false, false, false, false, false, false, false, false, false, false, false, false, false, false, false, false, false, false, false, false, false, false] (by kernel_rfl) rfl rfl (HSK.out _ (below_drew1 HD.out)) (fun hHeld => ?_)
   refine with_tabW RLease.tab10 RLease.bits10 (fun HT_ HW_ => ?_)
   have HDc := Aside0.mk (below_drew1 HD.out)
   clear hp0 hp1 hx0 HD
   generalize wr.drew = wd at HDc hHeld ⊢
   refine pure_ (i := 1) (N := some 39) (v := ?_) (a' := ?_) #[false, true, false, false, false, false, false, false, false, false, false, false, false, false, false, false, false, false, false, false, false, false] rfl rfl (any_of HT_.out (by kernel_rfl)) (fun _ _ _ h => h) (Or.inl ⟨by rfl, ?_⟩) ?_ ?_
   rotate_left
   ·
    intro w'
    go_simp
    with_reducible rfl
   rotate_left
   ·
    simp only [Act.put, List.setIfInBounds_toArray, List.set_cons_zero, List.set_cons_succ, i64_w, i32_w]
    rfl
   refine pure_ (i := 3) (N := some 41) (v := ?_) (a' := ?_) #[false, true, false, true, false, false, false, false, false, false, false, false, false, false, false, false, false, false, false, false, false, false] rfl rfl (any_of HT_.out (by kernel_rfl)) (fun _ _ _ h => h) (Or.inl ⟨by rfl, ?_⟩) ?_ ?_
   rotate_left
   ·
    intro w'
    go_simp
    with_reducible rfl
   rotate_left
   ·
    simp only [Act.put, List.setIfInBounds_toArray, List.set_cons_zero, List.set_cons_succ, i64_w, i32_w]
    rfl
   refine pure_ (i := 5) (N := some 43) (v := ?_) (a' := ?_) #[false, true, false, true, false, true, false, false, false, false, false, false, false, false, false, false, false, false, false, false, false, false] rfl rfl (any_of HT_.out (by kernel_rfl)) (fun _ _ _ h => h) (Or.inl ⟨by rfl, ?_⟩) ?_ ?_
   rotate_left
   ·
    intro w'
    go_simp
    with_reducible rfl
   rotate_left
   ·
    simp only [Act.put, List.setIfInBounds_toArray, List.set_cons_zero, List.set_cons_succ, i64_w, i32_w]
    rfl
   refine take_ (i := 0) (N := some 38) (v := ?_) (a' := ?_) #[true, true, false, true, false, true, false, false, false, false, false, false, false, false, false, false, false, false, false, false, false, false] rfl rfl (take_ofW HT_.out HW_.out (by kernel_rfl)) (fun _ _ _ h => h) (Or.inl ⟨by rfl, ?_⟩) hHeld ?_ ?_
   rotate_left
   ·
    rintro w' ⟨p0, p1, p2⟩
    go_simp
    with_reducible rfl
   rotate_left
   ·
    simp only [Act.put, List.setIfInBounds_toArray, List.set_cons_zero, List.set_cons_succ, i64_w, i32_w]
    rfl
   refine take_ (i := 4) (N := some 42) (v := ?_) (a' := ?_) #[true, true, false, true, true, true, false, false, false, false, false, false, false, false, false, false, false, false, false, false, false, false] rfl rfl (take_ofW HT_.out HW_.out (by kernel_rfl)) (fun _ _ _ h => h) (Or.inl ⟨by rfl, ?_⟩) hHeld ?_ ?_
   rotate_left
   ·
    rintro w' ⟨p0, p1, p2⟩
    go_simp
    with_reducible rfl
   rotate_left
   ·
    simp only [Act.put, List.setIfInBounds_toArray, List.set_cons_zero, List.set_cons_succ, i64_w, i32_w]
    rfl
   refine pure_ (i := 6) (N := some 44) (v := ?_) (a' := ?_) #[true, true, false, true, true, true, true, false, false, false, false, false, false, false, false, false, false, false, false, false, false, false] rfl rfl (any_of HT_.out (by kernel_rfl)) (fun _ _ _ h => h) (Or.inl ⟨by rfl, ?_⟩) ?_ ?_
   rotate_left
   ·
    intro w'
    go_simp
    with_reducible rfl
   rotate_left
   ·
    simp only [Act.put, List.setIfInBounds_toArray, List.set_cons_zero, List.set_cons_succ, i64_w, i32_w]
    rfl
   refine take_ (i := 7) (N := some 45) (v := ?_) (a' := ?_) #[true, true, false, true, true, true, true, true, false, false, false, false, false, false, false, false, false, false, false, false, false, false] rfl rfl (take_ofW HT_.out HW_.out (by kernel_rfl)) (fun _ _ _ h => h) (Or.inl ⟨by rfl, ?_⟩) hHeld ?_ ?_
   rotate_left
   ·
    rintro w' ⟨p0, p1, p2⟩
    go_simp
    with_reducible rfl
   rotate_left
   ·
    simp only [Act.put, List.setIfInBounds_toArray, List.set_cons_zero, List.set_cons_succ, i64_w, i32_w]
    rfl
   refine one_ (i := 2) (N := some 40) #[true, true, true, true, true, true, true, true, false, false, false, false, false, false, false, false, false, false, false, false, false, false] rfl rfl (one_of HT_.out (by kernel_rfl)) (by decide) (fun K hK => ?_)
   refine goes_ Try.func13 (by kernel_rfl) rfl #[.agg #[.slice (some ad0) l0_0.length c0, .slice A l.length c], .int .i64 i] (by rfl) rfl rfl (by (try simp only [List.map_toArray, List.map_cons, List.map_nil]); first | done | rfl) ?_
   refine (HXI.out _ HDc.out).mono ?_
   rintro e w53 ⟨rfl, hb⟩
   refine ⟨_, rfl, ?_⟩
   have HDn := Aside0.mk (HDc.out.trans (hb.mono HDc.out.size))
   clear HDc hb hHeld
   have HDc := HDn
   clear HDn
   refine hK.out _ _ (HSK.out _ HDc.out) (fun hHeld => ?_)
   clear hK K
   refine norm_ (a' := ?_) ?_ ?_
   rotate_left
   ·
    show Act.put _ (some 40) _ = _
    simp only [Act.put, List.setIfInBounds_toArray, List.set_cons_zero, List.set_cons_succ, i64_w, i32_w]
    rfl
   by_cases h1 : x < y
   ·
    rw [if_pos h1] at HST
    have h1b := decide_eq_true h1
    clear h1
    refine pure_ (i := 8) (N := some 46) (v := ?_) (a' := ?_) #[true, true, true, true, true, true, true, true, true, false, false, false, false, false, false, false, false, false, false, false, false, false] rfl rfl (any_of HT_.out (by kernel_rfl)) (fun _ _ _ h => h) (Or.inl ⟨by rfl, ?_⟩) ?_ ?_
    rotate_left
    ·
     intro w'
     go_simp
     with_reducible rfl
    rotate_left
    ·
     simp only [Act.put, List.setIfInBounds_toArray, List.set_cons_zero, List.set_cons_succ, i64_w, i32_w]
     rfl
    refine pure_ (i := 9) (N := some 47) (v := ?_) (a' := ?_) #[true, true, true, true, true, true, true, true, true, true, false, false, false, false, false, false, false, false, false, false, false, false] rfl rfl (any_of HT_.out (by kernel_rfl)) (fun _ _ _ h => h) (Or.inl ⟨by rfl, ?_⟩) ?_ ?_
    rotate_left
    ·
     intro w'
     go_simp
     with_reducible rfl
    rotate_left
    ·
     simp only [Act.put, List.setIfInBounds_toArray, List.set_cons_zero, List.set_cons_succ, i64_w, i32_w]
     rfl
    refine pure_ (i := 10) (N := some 48) (v := ?_) (a' := ?_) #[true, true, true, true, true, true, true, true, true, true, true, false, false, false, false, false, false, false, false, false, false, false] rfl rfl (any_of HT_.out (by kernel_rfl)) (fun _ _ _ h => h) (Or.inl ⟨by rfl, ?_⟩) ?_ ?_
    rotate_left
    ·
     intro w'
     go_simp
     with_reducible rfl
    rotate_left
    ·
     simp only [Act.put, List.setIfInBounds_toArray, List.set_cons_zero, List.set_cons_succ, i64_w, i32_w]
     rfl
    by_cases h2 : b < 0
    ·
     rw [if_pos h2] at HST
     have h2b := decide_eq_true h2
     clear h2
     refine pure_ (i := 11) (N := some 49) (v := ?_) (a' := ?_) #[true, true, true, true, true, true, true, true, true, true, true, true, false, false, false, false, false, false, false, false, false, false] rfl rfl (any_of HT_.out (by kernel_rfl)) (fun _ _ _ h => h) (Or.inl ⟨by rfl, ?_⟩) ?_ ?_
     rotate_left
     ·
      intro w'
      go_simp
      with_reducible rfl
     rotate_left
     ·
      simp only [Act.put, List.setIfInBounds_toArray, List.set_cons_zero, List.set_cons_succ, i64_w, i32_w]
      rfl
     refine pure_ (i := 12) (N := some 50) (v := ?_) (a' := ?_) #[true, true, true, true, true, true, true, true, true, true, true, true, true, false, false, false, false, false, false, false, false, false] rfl rfl (any_of HT_.out (by kernel_rfl)) (fun _ _ _ h => h) (Or.inl ⟨by rfl, ?_⟩) ?_ ?_
     rotate_left
     ·
      intro w'
      go_simp
      with_reducible rfl
     rotate_left
     ·
      simp only [Act.put, List.setIfInBounds_toArray, List.set_cons_zero, List.set_cons_succ, i64_w, i32_w]
      rfl
     refine pure_ (i := 13) (N := some 51) (v := undef) (a' := ?_) #[true, true, true, true, true, true, true, true, true, true, true, true, true, true, false, false, false, false, false, false, false, false] rfl rfl (any_of HT_.out (by kernel_rfl)) (fun _ _ _ h => h) (Or.inr ⟨by rfl, rfl⟩) ?_ ?_
     rotate_left
     ·
      simp only [Act.put, List.setIfInBounds_toArray, List.set_cons_zero, List.set_cons_succ, i64_w, i32_w]
      rfl
     refine pure_ (i := 14) (N := some 52) (v := undef) (a' := ?_) #[true, true, true, true, true, true, true, true, true, true, true, true, true, true, true, false, false, false, false, false, false, false] rfl rfl (any_of HT_.out (by kernel_rfl)) (fun _ _ _ h => h) (Or.inr ⟨by rfl, rfl⟩) ?_ ?_
     rotate_left
     ·
      simp only [Act.put, List.setIfInBounds_toArray, List.set_cons_zero, List.set_cons_succ, i64_w, i32_w]
      rfl
     refine pure_ (i := 15) (N := some 53) (v := undef) (a' := ?_) #[true, true, true, true, true, true, true, true, true, true, true, true, true, true, true, true, false, false, false, false, false, false] rfl rfl (any_of HT_.out (by kernel_rfl)) (fun _ _ _ h => h) (Or.inr ⟨by rfl, rfl⟩) ?_ ?_
     rotate_left
     ·
      simp only [Act.put, List.setIfInBounds_toArray, List.set_cons_zero, List.set_cons_succ, i64_w, i32_w]
      rfl
     refine pure_ (i := 16) (N := some 54) (v := undef) (a' := ?_) #[true, true, true, true, true, true, true, true, true, true, true, true, true, true, true, true, true, false, false, false, false, false] rfl rfl (any_of HT_.out (by kernel_rfl)) (fun _ _ _ h => h) (Or.inr ⟨by rfl, rfl⟩) ?_ ?_
     rotate_left
     ·
      simp only [Act.put, List.setIfInBounds_toArray, List.set_cons_zero, List.set_cons_succ, i64_w, i32_w]
      rfl
     refine pure_ (i := 17) (N := some 55) (v := undef) (a' := ?_) #[true, true, true, true, true, true, true, true, true, true, true, true, true, true, true, true, true, true, false, false, false, false] rfl rfl (any_of HT_.out (by kernel_rfl)) (fun _ _ _ h => h) (Or.inr ⟨by rfl, rfl⟩) ?_ ?_
     rotate_left
     ·
      simp only [Act.put, List.setIfInBounds_toArray, List.set_cons_zero, List.set_cons_succ, i64_w, i32_w]
      rfl
     refine pure_ (i := 18) (N := some 56) (v := undef) (a' := ?_) #[true, true, true, true, true, true, true, true, true, true, true, true, true, true, true, true, true, true, true, false, false, false] rfl rfl (any_of HT_.out (by kernel_rfl)) (fun _ _ _ h => h) (Or.inr ⟨by rfl, rfl⟩) ?_ ?_
     rotate_left
     ·
      simp only [Act.put, List.setIfInBounds_toArray, List.set_cons_zero, List.set_cons_succ, i64_w, i32_w]
      rfl
     refine pure_ (i := 19) (N := some 57) (v := undef) (a' := ?_) #[true, true, true, true, true, true, true, true, true, true, true, true, true, true, true, true, true, true, true, true, false, false] rfl rfl (any_of HT_.out (by kernel_rfl)) (fun _ _ _ h => h) (Or.inr ⟨by rfl, rfl⟩) ?_ ?_
     rotate_left
     ·
      simp only [Act.put, List.setIfInBounds_toArray, List.set_cons_zero, List.set_cons_succ, i64_w, i32_w]
      rfl
     refine pure_ (i := 20) (N := some 58) (v := ?_) (a' := ?_) #[true, true, true, true, true, true, true, true, true, true, true, true, true, true, true, true, true, true, true, true, true, false] rfl rfl (any_of HT_.out (by kernel_rfl)) (fun _ _ _ h => h) (Or.inl ⟨by rfl, ?_⟩) ?_ ?_
     rotate_left
     ·
      intro w'
      go_simp
      with_reducible rfl
     rotate_left
     ·
      simp only [Act.put, List.setIfInBounds_toArray, List.set_cons_zero, List.set_cons_succ, i64_w, i32_w]
      rfl
     refine pure_ (i := 21) (N := some 59) (v := ?_) (a' := ?_) #[true, true, true, true, true, true, true, true, true, true, true, true, true, true, true, true, true, true, true, true, true, true] rfl rfl (any_of HT_.out (by kernel_rfl)) (fun _ _ _ h => h) (Or.inl ⟨by rfl, ?_⟩) ?_ ?_
     rotate_left
     ·
      intro w'
      go_simp
      with_reducible rfl
     rotate_left
     ·
      simp only [Act.put, List.setIfInBounds_toArray, List.set_cons_zero, List.set_cons_succ, i64_w, i32_w]
      rfl
     refine done_ (done_of HT_.out (by kernel_rfl)) ?_
     go_wp2
     go_roundg (l0_0.length - i)
     case measure => omega
     case rel => exact ⟨i + 1, by go_num, by rw [HST.out], by omega, by omega, HDc⟩
    ·
     rw [if_neg h2] at HST
     have h2b := decide_eq_false h2
     have hb0 : (0 : Int) ≤ b := by omega
     have HXC := Aside0.mk (HXB.out hb0)
     clear h2 HXB
     refine pure_ (i := 11) (N := some 49) (v := ?_) (a' := ?_) #[true, true, true, true, true, true, true, true, true, true, true, true, false, false, false, false, false, false, false, false, false, false] rfl rfl (any_of HT_.out (by kernel_rfl)) (fun _ _ _ h => h) (Or.inl ⟨by rfl, ?_⟩) ?_ ?_
     rotate_left
     ·
      intro w'
      go_simp
      with_reducible rfl
     rotate_left
     ·
      simp only [Act.put, List.setIfInBounds_toArray, List.set_cons_zero, List.set_cons_succ, i64_w, i32_w]
      rfl
     refine pure_ (i := 12) (N := some 50) (v := ?_) (a' := ?_) #[true, true, true, true, true, true, true, true, true, true, true, true, true, false, false, false, false, false, false, false, false, false] rfl rfl (any_of HT_.out (by kernel_rfl)) (fun _ _ _ h => h) (Or.inl ⟨by rfl, ?_⟩) ?_ ?_
     rotate_left
     ·
      intro w'
      go_simp
      with_reducible rfl
     rotate_left
     ·
      simp only [Act.put, List.setIfInBounds_toArray, List.set_cons_zero, List.set_cons_succ, i64_w, i32_w]
      rfl
     refine take_ (i := 13) (N := some 51) (v := ?_) (a' := ?_) #[true, true, true, true, true, true, true, true, true, true, true, true, true, true, false, false, false, false, false, false, false, false] rfl rfl (take_ofW HT_.out HW_.out (by kernel_rfl)) (fun _ _ _ h => h) (Or.inl ⟨by rfl, ?_⟩) hHeld ?_ ?_
     rotate_left
     ·
      rintro w' ⟨p0, p1, p2⟩
      go_simp
      with_reducible rfl
     rotate_left
     ·
      simp only [Act.put, List.setIfInBounds_toArray, List.set_cons_zero, List.set_cons_succ, i64_w, i32_w]
      rfl
     refine pure_ (i := 14) (N := some 52) (v := ?_) (a' := ?_) #[true, true, true, true, true, true, true, true, true, true, true, true, true, true, true, false, false, false, false, false, false, false] rfl rfl (any_of HT_.out (by kernel_rfl)) (fun _ _ _ h => h) (Or.inl ⟨by rfl, ?_⟩) ?_ ?_
     rotate_left
     ·
      intro w'
      go_simp
      with_reducible rfl
     rotate_left
     ·
      simp only [Act.put, List.setIfInBounds_toArray, List.set_cons_zero, List.set_cons_succ, i64_w, i32_w]
      rfl
     refine take_ (i := 16) (N := some 54) (v := ?_) (a' := ?_) #[true, true, true, true, true, true, true, true, true, true, true, true, true, true, true, false, true, false, false, false, false, false] rfl rfl (take_ofW HT_.out HW_.out (by kernel_rfl)) (fun _ _ _ h => h) (Or.inl ⟨by rfl, ?_⟩) hHeld ?_ ?_
     rotate_left
     ·
      rintro w' ⟨p0, p1, p2⟩
      go_simp
      with_reducible rfl
     rotate_left
     ·
      simp only [Act.put, List.setIfInBounds_toArray, List.set_cons_zero, List.set_cons_succ, i64_w, i32_w]
      rfl
     refine pure_ (i := 17) (N := some 55) (v := ?_) (a' := ?_) #[true, true, true, true, true, true, true, true, true, true, true, true, true, true, true, false, true, true, false, false, false, false] rfl rfl (any_of HT_.out (by kernel_rfl)) (fun _ _ _ h => h) (Or.inl ⟨by rfl, ?_⟩) ?_ ?_
     rotate_left
     ·
      intro w'
      go_simp
      with_reducible rfl
     rotate_left
     ·
      simp only [Act.put, List.setIfInBounds_toArray, List.set_cons_zero, List.set_cons_succ, i64_w, i32_w]
      rfl
     refine one_ (i := 15) (N := some 53) #[true, true, true, true, true, true, true, true, true, true, true, true, true, true, true, true, true, true, false, false, false, false] rfl rfl (one_of HT_.out (by kernel_rfl)) (by decide) (fun K hK => ?_)
     refine goes_ Try.func13 (by kernel_rfl) rfl #[.agg #[.slice (some ad0) l0_0.length c0, .slice A l.length c], .int .i64 i] (by rfl) rfl rfl (by (try simp only [List.map_toArray, List.map_cons, List.map_nil]); first | done | rfl) ?_
     refine (HXI.out _ HDc.out).mono ?_
     rintro e w53 ⟨rfl, hb⟩
     refine ⟨_, rfl, ?_⟩
     have HDn := Aside0.mk (HDc.out.trans (hb.mono HDc.out.size))
     clear HDc hb hHeld
     have HDc := HDn
     clear HDn
     refine hK.out _ _ (HSK.out _ HDc.out) (fun hHeld => ?_)
     clear hK K
     refine norm_ (a' := ?_) ?_ ?_
     rotate_left
     ·
      show Act.put _ (some 53) _ = _
      simp only [Act.put, List.setIfInBounds_toArray, List.set_cons_zero, List.set_cons_succ, i64_w, i32_w]
      rfl
     refine one_ (i := 18) (N := some 56) #[true, true, true, true, true, true, true, true, true, true, true, true, true, true, true, true, true, true, true, false, false, false] rfl rfl (one_of HT_.out (by kernel_rfl)) (by decide) (fun K hK => ?_)
     refine goes_ Try.func13 (by kernel_rfl) rfl #[.agg #[.slice (some ad0) l0_0.length c0, .slice A l.length c], .int .i64 b] (by rfl) rfl rfl (by (try simp only [List.map_toArray, List.map_cons, List.map_nil]); first | done | rfl) ?_
     refine (HXC.out _ HDc.out).mono ?_
     rintro e w53 ⟨rfl, hb⟩
     refine ⟨_, rfl, ?_⟩
     have HDn := Aside0.mk (HDc.out.trans (hb.mono HDc.out.size))
     clear HDc hb hHeld
     have HDc := HDn
     clear HDn
     refine hK.out _ _ (HSK.out _ HDc.out) (fun hHeld => ?_)
     clear hK K
     refine norm_ (a' := ?_) ?_ ?_
     rotate_left
     ·
      show Act.put _ (some 56) _ = _
      simp only [Act.put, List.setIfInBounds_toArray, List.set_cons_zero, List.set_cons_succ, i64_w, i32_w]
      rfl
     by_cases h3 : x < z
     ·
      rw [if_pos h3] at HST
      have h3b := decide_eq_true h3
      clear h3
      refine pure_ (i := 19) (N := some 57) (v := ?_) (a' := ?_) #[true, true, true, true, true, true, true, true, true, true, true, true, true, true, true, true, true, true, true, true, false, false] rfl rfl (any_of HT_.out (by kernel_rfl)) (fun _ _ _ h => h) (Or.inl ⟨by rfl, ?_⟩) ?_ ?_
      rotate_left
      ·
       intro w'
       go_simp
       with_reducible rfl
      rotate_left
      ·
       simp only [Act.put, List.setIfInBounds_toArray, List.set_cons_zero, List.set_cons_succ, i64_w, i32_w]
       rfl
      refine pure_ (i := 20) (N := some 58) (v := ?_) (a' := ?_) #[true, true, true, true, true, true, true, true, true, true, true, true, true, true, true, true, true, true, true, true, true, false] rfl rfl (any_of HT_.out (by kernel_rfl)) (fun _ _ _ h => h) (Or.inl ⟨by rfl, ?_⟩) ?_ ?_
      rotate_left
      ·
       intro w'
       go_simp
       with_reducible rfl
      rotate_left
      ·
       simp only [Act.put, List.setIfInBounds_toArray, List.set_cons_zero, List.set_cons_succ, i64_w, i32_w]
       rfl
      refine pure_ (i := 21) (N := some 59) (v := ?_) (a' := ?_) #[true, true, true, true, true, true, true, true, true, true, true, true, true, true, true, true, true, true, true, true, true, true] rfl rfl (any_of HT_.out (by kernel_rfl)) (fun _ _ _ h => h) (Or.inl ⟨by rfl, ?_⟩) ?_ ?_
      rotate_left
      ·
       intro w'
       go_simp
       with_reducible rfl
      rotate_left
      ·
       simp only [Act.put, List.setIfInBounds_toArray, List.set_cons_zero, List.set_cons_succ, i64_w, i32_w]
       rfl
      refine done_ (done_of HT_.out (by kernel_rfl)) ?_
      go_wp2
      go_roundg (l0_0.length - i)
      case measure => omega
      case rel => exact ⟨i + 1, by go_num, by rw [HST.out], by omega, by omega, HDc⟩
     ·
      rw [if_neg h3] at HST
      have h3b := decide_eq_false h3
      clear h3
      refine pure_ (i := 19) (N := some 57) (v := ?_) (a' := ?_) #[true, true, true, true, true, true, true, true, true, true, true, true, true, true, true, true, true, true, true, true, false, false] rfl rfl (any_of HT_.out (by kernel_rfl)) (fun _ _ _ h => h) (Or.inl ⟨by rfl, ?_⟩) ?_ ?_
      rotate_left
      ·
       intro w'
       go_simp
       with_reducible rfl
      rotate_left
      ·
       simp only [Act.put, List.setIfInBounds_toArray, List.set_cons_zero, List.set_cons_succ, i64_w, i32_w]
       rfl
      refine pure_ (i := 20) (N := some 58) (v := ?_) (a' := ?_) #[true, true, true, true, true, true, true, true, true, true, true, true, true, true, true, true, true, true, true, true, true, false] rfl rfl (any_of HT_.out (by kernel_rfl)) (fun _ _ _ h => h) (Or.inl ⟨by rfl, ?_⟩) ?_ ?_
      rotate_left
      ·
       intro w'
       go_simp
       with_reducible rfl
      rotate_left
      ·
       simp only [Act.put, List.setIfInBounds_toArray, List.set_cons_zero, List.set_cons_succ, i64_w, i32_w]
       rfl
      refine pure_ (i := 21) (N := some 59) (v := ?_) (a' := ?_) #[true, true, true, true, true, true, true, true, true, true, true, true, true, true, true, true, true, true, true, true, true, true] rfl rfl (any_of HT_.out (by kernel_rfl)) (fun _ _ _ h => h) (Or.inl ⟨by rfl, ?_⟩) ?_ ?_
      rotate_left
      ·
       intro w'
       go_simp
       with_reducible rfl
      rotate_left
      ·
       simp only [Act.put, List.setIfInBounds_toArray, List.set_cons_zero, List.set_cons_succ, i64_w, i32_w]
       rfl
      refine done_ (done_of HT_.out (by kernel_rfl)) ?_
      go_wp2
      go_roundg (l0_0.length - i)
      case measure => omega
      case rel => exact ⟨i + 1, by go_num, by rw [HST.out], by omega, by omega, HDc⟩
   ·
    rw [if_neg h1] at HST
    have h1b := decide_eq_false h1
    clear h1
    refine pure_ (i := 8) (N := some 46) (v := ?_) (a' := ?_) #[true, true, true, true, true, true, true, true, true, false, false, false, false, false, false, false, false, false, false, false, false, false] rfl rfl (any_of HT_.out (by kernel_rfl)) (fun _ _ _ h => h) (Or.inl ⟨by rfl, ?_⟩) ?_ ?_
    rotate_left
    ·
     intro w'
     go_simp
     with_reducible rfl
    rotate_left
    ·
     simp only [Act.put, List.setIfInBounds_toArray, List.set_cons_zero, List.set_cons_succ, i64_w, i32_w]
     rfl
    refine pure_ (i := 9) (N := some 47) (v := ?_) (a' := ?_) #[true, true, true, true, true, true, true, true, true, true, false, false, false, false, false, false, false, false, false, false, false, false] rfl rfl (any_of HT_.out (by kernel_rfl)) (fun _ _ _ h => h) (Or.inl ⟨by rfl, ?_⟩) ?_ ?_
    rotate_left
    ·
     intro w'
     go_simp
     with_reducible rfl
    rotate_left
    ·
     simp only [Act.put, List.setIfInBounds_toArray, List.set_cons_zero, List.set_cons_succ, i64_w, i32_w]
     rfl
    refine pure_ (i := 10) (N := some 48) (v := undef) (a' := ?_) #[true, true, true, true, true, true, true, true, true, true, true, false, false, false, false, false, false, false, false, false, false, false] rfl rfl (any_of HT_.out (by kernel_rfl)) (fun _ _ _ h => h) (Or.inr ⟨by rfl, rfl⟩) ?_ ?_
    rotate_left
    ·
     simp only [Act.put, List.setIfInBounds_toArray, List.set_cons_zero, List.set_cons_succ, i64_w, i32_w]
     rfl
    refine pure_ (i := 11) (N := some 49) (v := undef) (a' := ?_) #[true, true, true, true, true, true, true, true, true, true, true, true, false, false, false, false, false, false, false, false, false, false] rfl rfl (any_of HT_.out (by kernel_rfl)) (fun _ _ _ h => h) (Or.inr ⟨by rfl, rfl⟩) ?_ ?_
    rotate_left
    ·
     simp only [Act.put, List.setIfInBounds_toArray, List.set_cons_zero, List.set_cons_succ, i64_w, i32_w]
     rfl
    refine pure_ (i := 12) (N := some 50) (v := undef) (a' := ?_) #[true, true, true, true, true, true, true, true, true, true, true, true, true, false, false, false, false, false, false, false, false, false] rfl rfl (any_of HT_.out (by kernel_rfl)) (fun _ _ _ h => h) (Or.inr ⟨by rfl, rfl⟩) ?_ ?_
    rotate_left
    ·
     simp only [Act.put, List.setIfInBounds_toArray, List.set_cons_zero, List.set_cons_succ, i64_w, i32_w]
     rfl
    refine pure_ (i := 13) (N := some 51) (v := undef) (a' := ?_) #[true, true, true, true, true, true, true, true, true, true, true, true, true, true, false, false, false, false, false, false, false, false] rfl rfl (any_of HT_.out (by kernel_rfl)) (fun _ _ _ h => h) (Or.inr ⟨by rfl, rfl⟩) ?_ ?_
    rotate_left
    ·
     simp only [Act.put, List.setIfInBounds_toArray, List.set_cons_zero, List.set_cons_succ, i64_w, i32_w]
     rfl
    refine pure_ (i := 14) (N := some 52) (v := undef) (a' := ?_) #[true, true, true, true, true, true, true, true, true, true, true, true, true, true, true, false, false, false, false, false, false, false] rfl rfl (any_of HT_.out (by kernel_rfl)) (fun _ _ _ h => h) (Or.inr ⟨by rfl, rfl⟩) ?_ ?_
    rotate_left
    ·
     simp only [Act.put, List.setIfInBounds_toArray, List.set_cons_zero, List.set_cons_succ, i64_w, i32_w]
     rfl
    refine pure_ (i := 15) (N := some 53) (v := undef) (a' := ?_) #[true, true, true, true, true, true, true, true, true, true, true, true, true, true, true, true, false, false, false, false, false, false] rfl rfl (any_of HT_.out (by kernel_rfl)) (fun _ _ _ h => h) (Or.inr ⟨by rfl, rfl⟩) ?_ ?_
    rotate_left
    ·
     simp only [Act.put, List.setIfInBounds_toArray, List.set_cons_zero, List.set_cons_succ, i64_w, i32_w]
     rfl
    refine pure_ (i := 16) (N := some 54) (v := undef) (a' := ?_) #[true, true, true, true, true, true, true, true, true, true, true, true, true, true, true, true, true, false, false, false, false, false] rfl rfl (any_of HT_.out (by kernel_rfl)) (fun _ _ _ h => h) (Or.inr ⟨by rfl, rfl⟩) ?_ ?_
    rotate_left
    ·
     simp only [Act.put, List.setIfInBounds_toArray, List.set_cons_zero, List.set_cons_succ, i64_w, i32_w]
     rfl
    refine pure_ (i := 17) (N := some 55) (v := undef) (a' := ?_) #[true, true, true, true, true, true, true, true, true, true, true, true, true, true, true, true, true, true, false, false, false, false] rfl rfl (any_of HT_.out (by kernel_rfl)) (fun _ _ _ h => h) (Or.inr ⟨by rfl, rfl⟩) ?_ ?_
    rotate_left
    ·
     simp only [Act.put, List.setIfInBounds_toArray, List.set_cons_zero, List.set_cons_succ, i64_w, i32_w]
     rfl
    refine pure_ (i := 18) (N := some 56) (v := undef) (a' := ?_) #[true, true, true, true, true, true, true, true, true, true, true, true, true, true, true, true, true, true, true, false, false, false] rfl rfl (any_of HT_.out (by kernel_rfl)) (fun _ _ _ h => h) (Or.inr ⟨by rfl, rfl⟩) ?_ ?_
    rotate_left
    ·
     simp only [Act.put, List.setIfInBounds_toArray, List.set_cons_zero, List.set_cons_succ, i64_w, i32_w]
     rfl
    refine pure_ (i := 19) (N := some 57) (v := undef) (a' := ?_) #[true, true, true, true, true, true, true, true, true, true, true, true, true, true, true, true, true, true, true, true, false, false] rfl rfl (any_of HT_.out (by kernel_rfl)) (fun _ _ _ h => h) (Or.inr ⟨by rfl, rfl⟩) ?_ ?_
    rotate_left
    ·
     simp only [Act.put, List.setIfInBounds_toArray, List.set_cons_zero, List.set_cons_succ, i64_w, i32_w]
     rfl
    refine pure_ (i := 20) (N := some 58) (v := undef) (a' := ?_) #[true, true, true, true, true, true, true, true, true, true, true, true, true, true, true, true, true, true, true, true, true, false] rfl rfl (any_of HT_.out (by kernel_rfl)) (fun _ _ _ h => h) (Or.inr ⟨by rfl, rfl⟩) ?_ ?_
    rotate_left
    ·
     simp only [Act.put, List.setIfInBounds_toArray, List.set_cons_zero, List.set_cons_succ, i64_w, i32_w]
     rfl
    refine pure_ (i := 21) (N := some 59) (v := ?_) (a' := ?_) #[true, true, true, true, true, true, true, true, true, true, true, true, true, true, true, true, true, true, true, true, true, true] rfl rfl (any_of HT_.out (by kernel_rfl)) (fun _ _ _ h => h) (Or.inl ⟨by rfl, ?_⟩) ?_ ?_
    rotate_left
    ·
     intro w'
     go_simp
     with_reducible rfl
    rotate_left
    ·
     simp only [Act.put, List.setIfInBounds_toArray, List.set_cons_zero, List.set_cons_succ, i64_w, i32_w]
     rfl
    refine done_ (done_of HT_.out (by kernel_rfl)) ?_
    go_wp2
    go_roundg (l0_0.length - i)
    case measure => omega
    case rel => exact ⟨i + 1, by go_num, by rw [HST.out], by omega, by omega, HDc⟩
  ·
   obtain rfl : i = l0_0.length := by omega
   have cz2 : ¬ (l0_0.length : Int) < (l0_0.length : Int) := by omega
   have hres := HRES.out
   rw [HBEST.out] at hres
   have HB02 := Aside0.mk (blk_below HB0.out HD.out)
   have HB12 := Aside0.mk (blk_below HB1.out HD.out)
   have HB22 := Aside0.mk (blk_below HB2.out HD.out)
   have HBB2 := Aside0.mk (HB.out.trans (HD.out.mono HB.out.size))
   clear HST HB0 HB1 HB2 HD HB
   by_cases hb : b < 0
   ·
    rw [if_pos hb] at hres
    simp only [Option.some.injEq, Prod.mk.injEq] at hres
    obtain ⟨rfl, rfl, rfl, rfl, rfl, rfl, rfl⟩ := hres
    clear hp0 hp1
    have hbb := decide_eq_true hb
    have hp0 : wr.cell? ⟨w.heap.size, 0, none⟩ = some (.slice A0 l0_0.length c0) := (blk_cell HB02.out 0).trans rfl
    have hp1 : wr.cell? ⟨w.heap.size, 1, none⟩ = some (.slice A l.length c) := (blk_cell HB02.out 1).trans rfl
    have hd0 : wr.cell? ⟨w.heap.size + 1, 0, none⟩ = some (.slice none 0 0) := (blk_cell HB12.out 0).trans rfl
    have hd1 : wr.cell? ⟨w.heap.size + 1, 1, none⟩ = some (.slice none 0 0) := (blk_cell HB12.out 1).trans rfl
    have hdf := fun j => blk_frozen HB12.out j
    have he0 : wr.cell? ⟨w.heap.size + 1 + 1, 0, none⟩ = some (.int .i64 0) := (blk_cell HB22.out 0).trans rfl
    have he1 : wr.cell? ⟨w.heap.size + 1 + 1, 1, none⟩ = some (.int .i64 0) := (blk_cell HB22.out 1).trans rfl
    have he2 : wr.cell? ⟨w.heap.size + 1 + 1, 2, none⟩ = some (.int .i64 0) := (blk_cell HB22.out 2).trans rfl
    have he3 : wr.cell? ⟨w.heap.size + 1 + 1, 3, none⟩ = some (.int .i64 0) := (blk_cell HB22.out 3).trans rfl
    have hef := fun j => blk_frozen HB22.out j
    go_wp2
    have HF := finW_below (B1 := w.heap.size + 1) (B2 := w.heap.size + 1 + 1) HBB2.out (by omega) (by omega) (.slice A0 l0_0.length c0) (.slice A l.length c) (.int .i64 0) (.int .i64 0) (.int .i64 0) (.int .i64 0)
    refine bodyPost_ret (results_cct rfl _ _ (w.heap.size + 1) (w.heap.size + 1 + 1) 25 29 #[.slice A0 l0_0.length c0, .slice A l.length c] Z29 (0, 0) (0, 0) _ _ rfl (finW_b1 HB12.out (by omega) _ _ _ _ _ _) Try.underlying25 rfl (by kernel_rfl) rfl (finW_b2 HB22.out (by omega) _ _ _ _ _ _) Try.underlying29 rfl (by kernel_rfl)) rfl ?_
    exact ⟨_, _, rfl, Kd.V_mono (Kd.V_below HS0.out HF) (fun k hk => Or.inl (Or.inl hk)), Kd.V_mono (Kd.V_below HS1.out HF) (fun k hk => Or.inl (Or.inr hk)), HF⟩
   ·
    rw [if_neg hb] at hres
    simp only [Option.some.injEq, Prod.mk.injEq] at hres
    obtain ⟨rfl, rfl, rfl, rfl, rfl, rfl, rfl⟩ := hres
    have hbb := decide_eq_false hb
    obtain ⟨k1, k2, k3, k4⟩ := ch_right HR.out b
    have hcn : cntN b l ≤ l.length := List.countP_le_length
    generalize hCH : chL b l = CH at *
    have hCHm : CH ≤ 201 := by omega
    have hne : l.find? (atP b CH) = none := find_at_none k1
    have HA0 : Aside0 (∀ W, Below w.heap.size w W → Calls Try.prog 24 #[.agg #[.slice A0 l0_0.length c0, .slice A l.length c], .int .i64 b, .int .i64 CH] W fun e w' => e = .returned (.tuple #[.agg #[.int .i64 0, .int .i64 0, .int .i64 0, .int .i64 0], .bool false]) ∧ Below W.heap.size W w') := ⟨fun W hW => by have := HATX.out W hW b CH; rw [hne] at this; exact this⟩
    have HA1 : Aside0 (∀ j : Int, 1 ≤ j → j < CH → ∃ s : S29, ∀ W, Below w.heap.size w W → Calls Try.prog 24 #[.agg #[.slice A0 l0_0.length c0, .slice A l.length c], .int .i64 b, .int .i64 j] W fun e w' => e = .returned (.tuple #[.agg #[.int .i64 s.f0, .int .i64 s.f1, .int .i64 s.f2, .int .i64 s.f3], .bool true]) ∧ Below W.heap.size W w') := ⟨fun j h1 h2 => by
     obtain ⟨s, hs, e0, e1⟩ := k4 j h1 h2
     have hfs := find_at HR.out.lt hs
     rw [e0, e1] at hfs
     refine ⟨s, fun W hW => ?_⟩
     have := HATX.out W hW b j
     rw [hfs] at this
     exact this⟩
    clear hne k1 k3 k4 hcn HMANY HATX HOF
    have HCHE := Aside0.mk hCH
    clear hCH
    go_wp2
    clear hp0 hp1
    generalize wr = wB at *
    have HLK := Aside0.mk (Below.refl wB.heap.size wB)
    go_loopg [11] 202 (fun gg v11 wr => ∃ ch : Int, v11 = .int .i64 ch ∧ 1 ≤ ch ∧ ch ≤ CH ∧ CH - ch < (gg : Int) ∧ Aside0 (Below wB.heap.size wB wr))
    case atStart => exact ⟨1, rfl, by omega, by omega, by omega, HLK⟩
    case round =>
     obtain ⟨ch, rfl, hc1, hc2, hcg, HD⟩ := hrel
     clear HLK
     have hp0 : wr.cell? ⟨w.heap.size, 0, none⟩ = some (.slice A0 l0_0.length c0) := (blk_cell (blk_below HB02.out HD.out) 0).trans rfl
     have hp1 : wr.cell? ⟨w.heap.size, 1, none⟩ = some (.slice A l.length c) := (blk_cell (blk_below HB02.out HD.out) 1).trans rfl
     by_cases hlt : ch < CH
     ·
      obtain ⟨s, hs⟩ := HA1.out ch hc1 hlt
      have HSA := Aside0.mk hs
      clear hs
      go_wp2_with (go_at_call 24; refine (HSA.out _ (HBB2.out.trans (HD.out.mono HBB2.out.size))).mono ?_; rintro e w7 ⟨rfl, hb7⟩; have HD7 := Aside0.mk (HD.out.trans (hb7.mono HD.out.size)); clear hb7)
      go_roundg (CH - ch).toNat
      case measure => omega
      case rel => exact ⟨ch + 1, by go_num, by omega, by omega, by omega, ⟨below_alloc HD7.out _⟩⟩
     ·
      obtain rfl : ch = CH := by omega
      go_upto_region 18 with (go_at_call 24; refine (HA0.out _ (HBB2.out.trans (HD.out.mono HBB2.out.size))).mono ?_; rintro e w7 ⟨rfl, hb7⟩; have HD7 := Aside0.mk (HD.out.trans (hb7.mono HD.out.size)); clear hb7)
      have HD8 := Aside0.mk (below_alloc HD7.out (.cells #[.int .i64 0, .int .i64 0, .int .i64 0, .int .i64 0] 29))
      generalize w7.alloc (.cells #[.int .i64 0, .int .i64 0, .int .i64 0, .int .i64 0] 29) = wC at HD8 ⊢
      clear HD7 HD hp0 hp1 HA0 HA1 hc2 hlt hcg
      have k0 := Aside0.mk (blk_below HB02.out HD8.out)
      have k1_ := Aside0.mk (blk_below HB12.out HD8.out)
      have k2_ := Aside0.mk (blk_below HB22.out HD8.out)
      have kB := Aside0.mk (HBB2.out.trans (HD8.out.mono HBB2.out.size))
      clear HD8 HB02 HB12 HB22 HBB2
      have hp0 : (wC.alloc (.cells #[.int .i64 b, .int .i64 ch, .int .i64 1, .int .i64 a1] 29)).cell? ⟨w.heap.size, 0, none⟩ = some (.slice A0 l0_0.length c0) := (blk_cell (blk_alloc k0.out _) 0).trans rfl
      go_upto_region 21 with (fail)
      have HLB : Aside0 (LB w ((wC.alloc (.cells #[.int .i64 b, .int .i64 ch, .int .i64 1, .int .i64 a1] 29)).alloc (.cells #[.slice A0 l0_0.length c0, .slice none 0 0] 25)) A0 l0_0.length c0 A l.length c b ch a1 wC.heap.size (((wC.alloc (.cells #[.int .i64 b, .int .i64 ch, .int .i64 1, .int .i64 a1] 29)).alloc (.cells #[.slice A0 l0_0.length c0, .slice none 0 0] 25)).heap.size) (.slice none 0 0)) := ⟨⟨blk_alloc (blk_alloc k0.out _) _, blk_alloc (blk_alloc k1_.out _) _, blk_alloc (blk_alloc k2_.out _) _, blk_alloc (blk_new _ _) _, by simpa using blk_new (wC.alloc (.cells #[.int .i64 b, .int .i64 ch, .int .i64 1, .int .i64 a1] 29)) (.cells #[.slice A0 l0_0.length c0, .slice none 0 0] 25), below_alloc (below_alloc kB.out _) _, blk_lt k2_.out, by simp, Nat.le_refl _⟩⟩
      clear hp0 k0 k1_ k2_ kB
      generalize (wC.alloc (.cells #[.int .i64 b, .int .i64 ch, .int .i64 1, .int .i64 a1] 29)).alloc (.cells #[.slice A0 l0_0.length c0, .slice none 0 0] 25) = wE at HLB ⊢
      generalize wC.heap.size = gS at HLB ⊢
      have HRN := Aside0.mk (Kd.R_nil k29 29 wE wE.heap.size (fun _ => True))
      generalize hBq : wE.heap.size = B at HRN HLB
      clear hBq
      go_wp2
      go_loopg [16, 17] (l.length + 1) (fun gg v16 v17 wr => ∃ (i : Nat) (dn : Bool) (K : List S29) (vK : Value), v16 = .bool dn ∧ v17 = .int .i64 i ∧ i ≤ l.length ∧ l.length - i < gg ∧ Aside0 (K.length ≤ i + 1) ∧ Aside0 (K ++ (if dn = true then l.drop i else insL ⟨b, ch, 1, a1⟩ (l.drop i)) = insL ⟨b, ch, 1, a1⟩ l) ∧ Aside0 (LB w wr A0 l0_0.length c0 A l.length c b ch a1 gS B vK) ∧ Aside0 (Kd.R k29 29 wr B (fun _ => True) vK K))
      case atStart => exact ⟨0, false, [], _, rfl, rfl, Nat.zero_le _, by omega, ⟨by simp⟩, ⟨by simp⟩, HLB, HRN⟩
      case round =>
       obtain ⟨i, dn, K, vK, rfl, rfl, hi3, hig3, HKL, HKE, HL, HRK⟩ := hrel
       clear HLB HRN
       have e1 : wr.cell? ⟨w.heap.size, 1, none⟩ = some (.slice A l.length c) := (blk_cell HL.out.b0 1).trans rfl
       by_cases ci : i < l.length
       ·
        have cz : (i : Int) < (l.length : Int) := by omega
        have cz0 : (0 : Int) ≤ (i : Int) := by omega
        have hdr : l.drop i = l[i] :: l.drop (i + 1) := List.drop_eq_getElem_cons ci
        have hrd : rd_T29 l (i : Int) = l[i] := by simp [rd_T29, ci]
        generalize l[i] = x at hdr hrd
        obtain ⟨y0, y1, y2, y3⟩ := x
        obtain ⟨ad, hA, HXC⟩ : ∃ ad, A = some ad ∧ Aside0 (∀ W, Below w.heap.size w W → W.cell? (ad.add (i * 4)) = some (.int .i64 y0) ∧ W.cell? ⟨(ad.add (i * 4)).block, (ad.add (i * 4)).off + 1, none⟩ = some (.int .i64 y1) ∧ W.cell? ⟨(ad.add (i * 4)).block, (ad.add (i * 4)).off + 2, none⟩ = some (.int .i64 y2) ∧ W.cell? ⟨(ad.add (i * 4)).block, (ad.add (i * 4)).off + 3, none⟩ = some (.int .i64 y3)) := by
         obtain ⟨ad, hA, -⟩ := at_T29 HC1.out (i : Int) cz0 cz
         refine ⟨ad, hA, ⟨fun W hW => ?_⟩⟩
         obtain ⟨ad', hA', g0, g1, g2, g3⟩ := at_T29 (Kd.C_below HC1.out hW) (i : Int) cz0 cz
         obtain rfl : ad = ad' := Option.some.inj (hA.symm.trans hA')
         rw [Int.toNat_natCast, hrd] at g0 g1 g2 g3
         exact ⟨g0, g1, g2, g3⟩
        subst hA
        rw [hdr] at HKE
        clear hdr hrd
        obtain ⟨hx0, hx1, hx2, hx3⟩ := HXC.out wr HL.out.hB
        obtain ⟨q, hq⟩ : ∃ q, (!dn && (decide (b < y0) || (b == y0 && decide (ch < y1)))) = q := ⟨_, rfl⟩
        have HQ := Aside0.mk hq
        clear hq
        go_upto_region 24 with (fail)
        go_cut [121] (fun v121 wc => v121 = .bool q ∧ Aside0 (wc = wr))
        case first =>
         cases dn with
         | true =>
          obtain rfl : false = q := by rw [← HQ.out]; (first | rfl | (simp only [*]; rfl) | simp [*])
          clear HQ
          go_wp2
          go_meet
          exact ⟨rfl, ⟨rfl⟩⟩
         | false =>
          by_cases g0 : b < y0
          ·
           have d0 := decide_eq_true g0
           clear g0
           obtain rfl : true = q := by rw [← HQ.out]; (first | rfl | (simp only [*]; rfl) | simp [*])
           clear HQ
           go_wp2
           go_meet
           exact ⟨rfl, ⟨rfl⟩⟩
          ·
           have d0 := decide_eq_false g0
           by_cases g1 : y0 = b
           ·
            have d1 : (y0 == b) = true := beq_iff_eq.2 g1
            have d2 : (b == y0) = true := beq_iff_eq.2 g1.symm
            clear g0 g1
            by_cases g2 : ch < y1
            ·
             have d3 := decide_eq_true g2
             clear g2
             obtain rfl : true = q := by rw [← HQ.out]; (first | rfl | (simp only [*]; rfl) | simp [*])
             clear HQ
             go_wp2
             go_meet
             exact ⟨rfl, ⟨rfl⟩⟩
            ·
             have d3 := decide_eq_false g2
             clear g2
             obtain rfl : false = q := by rw [← HQ.out]; (first | rfl | (simp only [*]; rfl) | simp [*])
             clear HQ
             go_wp2
             go_meet
             exact ⟨rfl, ⟨rfl⟩⟩
           ·
            have d1 : (y0 == b) = false := beq_eq_false_iff_ne.2 g1
            have d2 : (b == y0) = false := beq_eq_false_iff_ne.2 (fun e => g1 e.symm)
            clear g0 g1
            obtain rfl : false = q := by rw [← HQ.out]; (first | rfl | (simp only [*]; rfl) | simp [*])
            clear HQ
            go_wp2
            go_meet
            exact ⟨rfl, ⟨rfl⟩⟩
        case rest =>
         obtain ⟨rfl, hw⟩ := hcut
         obtain rfl := hw.out
         clear hw
         go_step
         go_cut [16] (fun v16 wc => ∃ (K2 : List S29) (v2 : Value), v16 = .bool (dn || q) ∧ Aside0 (K2 = if q = true then K ++ [(⟨b, ch, 1, a1⟩ : S29)] else K) ∧ Aside0 (LB w wc A0 l0_0.length c0 (some ad) l.length c b ch a1 gS B v2) ∧ Aside0 (Kd.R k29 29 wc B (fun _ => True) v2 K2))
         case first =>
          cases q with
          | false =>
           go_wp2
           go_meet
           exact ⟨K, vK, by rw [Bool.or_false], ⟨rfl⟩, HL, HRK⟩
          | true =>
           have s0 : wc.cell? ⟨gS, 0, none⟩ = some (.int .i64 b) := (blk_cell HL.out.bS 0).trans rfl
           have s1 : wc.cell? ⟨gS, 1, none⟩ = some (.int .i64 ch) := (blk_cell HL.out.bS 1).trans rfl
           have s2 : wc.cell? ⟨gS, 2, none⟩ = some (.int .i64 1) := (blk_cell HL.out.bS 2).trans rfl
           have s3 : wc.cell? ⟨gS, 3, none⟩ = some (.int .i64 a1) := (blk_cell HL.out.bS 3).trans rfl
           have o1 : wc.cell? ⟨gS + 1, 1, none⟩ = some vK := (blk_cell HL.out.bO 1).trans rfl
           go_wp2_with ((with_reducible refine gate_builtin (b := .append) (xs := #[.tmp 123, .tmp 125]) rfl ?_); at_builtin; refine Kd.R_append k29 (w0 := wc) B rfl (.tmp 123) (.tmp 125) 23 29 (.agg #[(.int .i64 0), (.int .i64 0), (.int .i64 0), (.int .i64 0)]) 32 rfl Try.underlying23 info29 rfl (by decide) (by omega) vK K (⟨b, ch, 1, a1⟩ : S29) [.int .i64 b, .int .i64 ch, .int .i64 1, .int .i64 a1] (fun _ => True) (fun _ => False) rfl rfl ?aP (fun _ hk => hk.elim) (fun _ _ => trivial) HRK.out (Below.refl _ _) HL.out.hS ?aL ?_; (case aP => exact k29_mkM _ _ _ (⟨b, ch, 1, a1⟩ : S29)); (case aL => have := HKL.out; omega); intro v1 w1 ho hb hg hat; have HL1 := Aside0.mk (HL.out.grown hg (fun k hk => Kd.R_base HRK.out k hk)); have HR1 := Aside0.mk ho; clear ho hb hg hat; obtain ⟨Ao, co, rfl⟩ := Kd.R_slice HR1.out; rw [List.length_append, List.length_singleton] at HR1; have u0 : w1.cell? ⟨gS + 1, 0, none⟩ = some (.slice A0 l0_0.length c0) := (blk_cell HL1.out.bO 0).trans rfl; have u1 : w1.cell? ⟨gS + 1, 1, none⟩ = some vK := (blk_cell HL1.out.bO 1).trans rfl; have uf := fun j => blk_frozen HL1.out.bO j)
           go_meet
           exact ⟨K ++ [(⟨b, ch, 1, a1⟩ : S29)], _, by rw [Bool.or_true], ⟨rfl⟩, ⟨HL1.out.put _⟩, ⟨HL1.out.row HR1.out _⟩⟩
         case rest =>
          obtain ⟨K2, v2, rfl, HK2, HL2, HR2⟩ := hcut
          clear hx0 hx1 hx2 hx3 e1
          have HK2L : Aside0 (K2.length ≤ i + 2) := ⟨by rw [HK2.out]; have := HKL.out; split <;> simp <;> omega⟩
          have HKE2 : Aside0 (K2 ++ [(⟨y0, y1, y2, y3⟩ : S29)] ++ (if (dn || q) = true then l.drop (i + 1) else insL (⟨b, ch, 1, a1⟩ : S29) (l.drop (i + 1))) = insL (⟨b, ch, 1, a1⟩ : S29) l) := ⟨by rw [HK2.out]; exact ins_step HQ.out HKE.out⟩
          have HQ2 : Aside0 (K2.length ≤ i + 1) := ⟨by have h1 := congrArg List.length HKE2.out; have h2 := HKL.out; rw [insL_length] at h1; simp only [List.length_append, List.length_singleton] at h1; revert h1; split <;> (try rw [insL_length]) <;> simp only [List.length_drop] <;> omega⟩
          clear HK2 HKE HQ HKL
          obtain ⟨hx0, hx1, hx2, hx3⟩ := HXC.out wc HL2.out.hB
          have e1 : wc.cell? ⟨w.heap.size, 1, none⟩ = some (.slice (some ad) l.length c) := (blk_cell HL2.out.b0 1).trans rfl
          have o1 : wc.cell? ⟨gS + 1, 1, none⟩ = some v2 := (blk_cell HL2.out.bO 1).trans rfl
          go_upto_region 27 with (fail)
          have HSK : Aside0 (∀ W, LB w W A0 l0_0.length c0 (some ad) l.length c b ch a1 gS B v2 → W.cell? ⟨gS + 1, 0, none⟩ = some (.slice A0 l0_0.length c0) ∧ W.cell? ⟨gS + 1, 1, none⟩ = some v2 ∧ W.cell? ⟨w.heap.size, 0, none⟩ = some (.slice A0 l0_0.length c0) ∧ W.cell? ⟨w.heap.size, 1, none⟩ = some (.slice (some ad) l.length c) ∧ W.cell? (ad.add (i * 4)) = some (.int .i64 y0) ∧ W.cell? ⟨(ad.add (i * 4)).block, (ad.add (i * 4)).off + 1, none⟩ = some (.int .i64 y1) ∧ W.cell? ⟨(ad.add (i * 4)).block, (ad.add (i * 4)).off + 2, none⟩ = some (.int .i64 y2) ∧ W.cell? ⟨(ad.add (i * 4)).block, (ad.add (i * 4)).off + 3, none⟩ = some (.int .i64 y3)) := ⟨fun W h => ⟨(blk_cell h.bO 0).trans rfl, (blk_cell h.bO 1).trans rfl, (blk_cell h.b0 0).trans rfl, (blk_cell h.b0 1).trans rfl, HXC.out W h.hB⟩⟩
          have HLd := Aside0.mk HL2.out.drew
          have HRd := Aside0.mk (Kd.R_drew HR2.out)
          clear hx0 hx1 hx2 hx3 e1 o1 HL2 HR2 HXC
          refine start_ (n := 11) (S := (fun W => W.cell? ⟨gS + 1, 0, none⟩ = some (.slice A0 l0_0.length c0) ∧ W.cell? ⟨gS + 1, 1, none⟩ = some v2 ∧ W.cell? ⟨w.heap.size, 0, none⟩ = some (.slice A0 l0_0.length c0) ∧ W.cell? ⟨w.heap.size, 1, none⟩ = some (.slice (some ad) l.length c) ∧ W.cell? (ad.add (i * 4)) = some (.int .i64 y0) ∧ W.cell? ⟨(ad.add (i * 4)).block, (ad.add (i * 4)).off + 1, none⟩ = some (.int .i64 y1) ∧ W.cell? ⟨(ad.add (i * 4)).block, (ad.add (i * 4)).off + 2, none⟩ = some (.int .i64 y2) ∧ W.cell? ⟨(ad.add (i * 4)).block, (ad.add (i * 4)).off + 3, none⟩ = some (.int .i64 y3))) (ds := [8, 10]) #[false, false, false, false, false, false, false, false, false, false, false] (by kernel_rfl) rfl rfl (HSK.out _ HLd.out) (fun hHeld => ?_)
          refine with_tabW RLease.tab27 RLease.bits27 (fun HT_ HW_ => ?_)
          generalize wc.drew = wd at HLd HRd hHeld ⊢
          refine pure_ (i := 0) (N := some 128) (v := ?_) (a' := ?_) #[true, false, false, false, false, false, false, false, false, false, false] rfl rfl (any_of HT_.out (by kernel_rfl)) (fun _ _ _ h => h) (Or.inl ⟨by rfl, ?_⟩) ?_ ?_
          rotate_left
          ·
           intro w'
           go_simp
           with_reducible rfl
          rotate_left
          ·
           simp only [Act.put, List.setIfInBounds_toArray, List.set_cons_zero, List.set_cons_succ, i64_w, i32_w]
           rfl
          refine pure_ (i := 2) (N := some 130) (v := ?_) (a' := ?_) #[true, false, true, false, false, false, false, false, false, false, false] rfl rfl (any_of HT_.out (by kernel_rfl)) (fun _ _ _ h => h) (Or.inl ⟨by rfl, ?_⟩) ?_ ?_
          rotate_left
          ·
           intro w'
           go_simp
           with_reducible rfl
          rotate_left
          ·
           simp only [Act.put, List.setIfInBounds_toArray, List.set_cons_zero, List.set_cons_succ, i64_w, i32_w]
           rfl
          refine pure_ (i := 4) (N := some 132) (v := ?_) (a' := ?_) #[true, false, true, false, true, false, false, false, false, false, false] rfl rfl (any_of HT_.out (by kernel_rfl)) (fun _ _ _ h => h) (Or.inl ⟨by rfl, ?_⟩) ?_ ?_
          rotate_left
          ·
           intro w'
           go_simp
           with_reducible rfl
          rotate_left
          ·
           simp only [Act.put, List.setIfInBounds_toArray, List.set_cons_zero, List.set_cons_succ, i64_w, i32_w]
           rfl
          refine take_ (i := 1) (N := some 129) (v := ?_) (a' := ?_) #[true, true, true, false, true, false, false, false, false, false, false] rfl rfl (take_ofW HT_.out HW_.out (by kernel_rfl)) (fun _ _ _ h => h) (Or.inl ⟨by rfl, ?_⟩) hHeld ?_ ?_
          rotate_left
          ·
           rintro w' ⟨p0, p1, p2, p3, p4, p5, p6, p7⟩
           go_simp
           with_reducible rfl
          rotate_left
          ·
           simp only [Act.put, List.setIfInBounds_toArray, List.set_cons_zero, List.set_cons_succ, i64_w, i32_w]
           rfl
          refine take_ (i := 3) (N := some 131) (v := ?_) (a' := ?_) #[true, true, true, true, true, false, false, false, false, false, false] rfl rfl (take_ofW HT_.out HW_.out (by kernel_rfl)) (fun _ _ _ h => h) (Or.inl ⟨by rfl, ?_⟩) hHeld ?_ ?_
          rotate_left
          ·
           rintro w' ⟨p0, p1, p2, p3, p4, p5, p6, p7⟩
           go_simp
           with_reducible rfl
          rotate_left
          ·
           simp only [Act.put, List.setIfInBounds_toArray, List.set_cons_zero, List.set_cons_succ, i64_w, i32_w]
           rfl
          refine pure_ (i := 5) (N := some 133) (v := ?_) (a' := ?_) #[true, true, true, true, true, true, false, false, false, false, false] rfl rfl (any_of HT_.out (by kernel_rfl)) (fun _ _ _ h => h) (Or.inl ⟨by rfl, ?_⟩) ?_ ?_
          rotate_left
          ·
           intro w'
           go_simp
           with_reducible rfl
          rotate_left
          ·
           simp only [Act.put, List.setIfInBounds_toArray, List.set_cons_zero, List.set_cons_succ, i64_w, i32_w]
           rfl
          refine take_ (i := 6) (N := some 134) (v := ?_) (a' := ?_) #[true, true, true, true, true, true, true, false, false, false, false] rfl rfl (take_ofW HT_.out HW_.out (by kernel_rfl)) (fun _ _ _ h => h) (Or.inl ⟨by rfl, ?_⟩) hHeld ?_ ?_
          rotate_left
          ·
           rintro w' ⟨p0, p1, p2, p3, p4, p5, p6, p7⟩
           go_simp
           with_reducible rfl
          rotate_left
          ·
           simp only [Act.put, List.setIfInBounds_toArray, List.set_cons_zero, List.set_cons_succ, i64_w, i32_w]
           rfl
          refine one_ (i := 7) (N := some 135) #[true, true, true, true, true, true, true, true, false, false, false] rfl rfl (one_of HT_.out (by kernel_rfl)) (by decide) (fun K hK => ?_)
          refine value_ (w1 := ?_) (v := ?_) (by rfl) rfl ?_ ?_
          rotate_left 2
          ·
           go_simp
           constructor
           ·
            rfl
           ·
            rfl
          refine hK.out _ _ (HSK.out _ (HLd.out.below (below_alloc (Below.refl _ _) _))) (fun hHeld => ?_)
          clear hK K
          refine norm_ (a' := ?_) ?_ ?_
          rotate_left
          ·
           show Act.put _ (some 135) _ = _
           simp only [Act.put, List.setIfInBounds_toArray, List.set_cons_zero, List.set_cons_succ, i64_w, i32_w]
           rfl
          refine last_ (i := 8) (N := some 136) #[true, true, true, true, true, true, true, true, true, false, false] rfl rfl (one_of HT_.out (by kernel_rfl)) (by decide) (fun K hK => ?_)
          refine Kd.R_append_step k29 (w0 := wd) B (by rfl) (.tmp 129) (.tmp 135) 23 29 (.agg #[(.int .i64 0), (.int .i64 0), (.int .i64 0), (.int .i64 0)]) 32 rfl Try.underlying23 info29 rfl (by decide) (by omega) v2 K2 (⟨y0, y1, y2, y3⟩ : S29) [.int .i64 y0, .int .i64 y1, .int .i64 y2, .int .i64 y3] (fun _ => True) (fun _ => False) rfl rfl ?aP (fun _ hk => hk.elim) (fun _ _ => trivial) HRd.out (Below.refl _ _) HLd.out.hS ?aL ?_
          (case aP => exact k29_mkM _ _ _ (⟨y0, y1, y2, y3⟩ : S29))
          (case aL => have := HQ2.out; omega)
          intro v1 w1 ho hb hg hat
          have HL1 := Aside0.mk (HLd.out.grown hg (fun k hk => Kd.R_base HRd.out k hk))
          have HR1 := Aside0.mk ho
          clear ho hb hg hat HLd HRd hHeld HSK
          obtain ⟨Ao, co, rfl⟩ := Kd.R_slice HR1.out
          refine hK.out _ _ ?_
          clear hK K
          refine norm_ (a' := ?_) ?_ ?_
          rotate_left
          ·
           show Act.put _ (some 136) _ = _
           simp only [Act.put, List.setIfInBounds_toArray, List.set_cons_zero, List.set_cons_succ, i64_w, i32_w]
           rfl
          refine pure_ (i := 9) (N := some 137) (v := ?_) (a' := ?_) #[true, true, true, true, true, true, true, true, true, true, false] rfl rfl (any_of HT_.out (by kernel_rfl)) (fun _ _ _ h => h) (Or.inl ⟨by rfl, ?_⟩) ?_ ?_
          rotate_left
          ·
           intro w'
           go_simp
           with_reducible rfl
          rotate_left
          ·
           simp only [Act.put, List.setIfInBounds_toArray, List.set_cons_zero, List.set_cons_succ, i64_w, i32_w]
           rfl
          refine last_ (i := 10) (N := none) #[true, true, true, true, true, true, true, true, true, true, true] rfl rfl (one_of HT_.out (by kernel_rfl)) (by decide) (fun K hK => ?_)
          have u1 : w1.cell? ⟨gS + 1, 1, none⟩ = some v2 := (blk_cell HL1.out.bO 1).trans rfl
          have uf := fun j => blk_frozen HL1.out.bO j
          refine skip_ (w1 := ?_) (by rfl) rfl ?_ ?_
          rotate_left
          ·
           go_simp
           rfl
          refine hK.out _ _ ?_
          clear hK K
          refine done_ (done_of HT_.out (by kernel_rfl)) ?_
          clear u1 uf
          rw [List.length_append, List.length_singleton] at HR1
          go_wp2
          go_roundg (l.length - i)
          case measure => omega
          case rel => exact ⟨i + 1, dn || q, K2 ++ [(⟨y0, y1, y2, y3⟩ : S29)], _, rfl, by go_num, by omega, by omega, ⟨by have := HQ2.out; simp; omega⟩, HKE2, ⟨HL1.out.put _⟩, ⟨HL1.out.row HR1.out _⟩⟩
       ·
        obtain rfl : i = l.length := by omega
        have cz : ¬ (l.length : Int) < (l.length : Int) := by omega
        rw [List.drop_length, insL_nil] at HKE
        have HFE : Aside0 ((if dn = true then K else K ++ [(⟨b, ch, 1, a1⟩ : S29)]) = insL ⟨b, ch, 1, a1⟩ l) := ⟨by have := HKE.out; cases dn <;> simpa using this⟩
        clear HKE
        go_upto_if 139 with (fail)
        go_cut [16] (fun v16 wc => ∃ (K2 : List S29) (v2 : Value), v16 = .bool dn ∧ Aside0 (K2 = insL (⟨b, ch, 1, a1⟩ : S29) l) ∧ Aside0 (LB w wc A0 l0_0.length c0 A l.length c b ch a1 gS B v2) ∧ Aside0 (Kd.R k29 29 wc B (fun _ => True) v2 K2))
        case first =>
         cases dn with
         | true =>
          go_wp2
          go_meet
          exact ⟨K, vK, rfl, ⟨HFE.out⟩, HL, HRK⟩
         | false =>
          have s0 : wr.cell? ⟨gS, 0, none⟩ = some (.int .i64 b) := (blk_cell HL.out.bS 0).trans rfl
          have s1 : wr.cell? ⟨gS, 1, none⟩ = some (.int .i64 ch) := (blk_cell HL.out.bS 1).trans rfl
          have s2 : wr.cell? ⟨gS, 2, none⟩ = some (.int .i64 1) := (blk_cell HL.out.bS 2).trans rfl
          have s3 : wr.cell? ⟨gS, 3, none⟩ = some (.int .i64 a1) := (blk_cell HL.out.bS 3).trans rfl
          have o1 : wr.cell? ⟨gS + 1, 1, none⟩ = some vK := (blk_cell HL.out.bO 1).trans rfl
          go_wp2_with ((with_reducible refine gate_builtin (b := .append) (xs := #[.tmp 141, .tmp 143]) rfl ?_); at_builtin; refine Kd.R_append k29 (w0 := wr) B rfl (.tmp 141) (.tmp 143) 23 29 (.agg #[(.int .i64 0), (.int .i64 0), (.int .i64 0), (.int .i64 0)]) 32 rfl Try.underlying23 info29 rfl (by decide) (by omega) vK K (⟨b, ch, 1, a1⟩ : S29) [.int .i64 b, .int .i64 ch, .int .i64 1, .int .i64 a1] (fun _ => True) (fun _ => False) rfl rfl ?aP (fun _ hk => hk.elim) (fun _ _ => trivial) HRK.out (Below.refl _ _) HL.out.hS ?aL ?_; (case aP => exact k29_mkM _ _ _ (⟨b, ch, 1, a1⟩ : S29)); (case aL => have := HKL.out; omega); intro v1 w1 ho hb hg hat; have HL1 := Aside0.mk (HL.out.grown hg (fun k hk => Kd.R_base HRK.out k hk)); have HR1 := Aside0.mk ho; clear ho hb hg hat; obtain ⟨Ao, co, rfl⟩ := Kd.R_slice HR1.out; rw [List.length_append, List.length_singleton] at HR1; have u0 : w1.cell? ⟨gS + 1, 0, none⟩ = some (.slice A0 l0_0.length c0) := (blk_cell HL1.out.bO 0).trans rfl; have u1 : w1.cell? ⟨gS + 1, 1, none⟩ = some vK := (blk_cell HL1.out.bO 1).trans rfl; have uf := fun j => blk_frozen HL1.out.bO j)
          go_meet
          exact ⟨K ++ [(⟨b, ch, 1, a1⟩ : S29)], _, rfl, ⟨HFE.out⟩, ⟨HL1.out.put _⟩, ⟨HL1.out.row HR1.out _⟩⟩
        case rest =>
         obtain ⟨K2, v2, rfl, HK2, HL2, HR2⟩ := hcut
         obtain ⟨A8, c8, rfl⟩ := Kd.R_slice HR2.out
         clear HL HRK HKL HFE e1
         have HLd := Aside0.mk HL2.out.drew
         have HRd := Aside0.mk (Kd.R_drew HR2.out)
         go_upto_region 30 with (fail)
         refine start_ (n := 5) (S := (fun W => W.cell? ⟨gS + 1, 0, none⟩ = some (.slice A0 l0_0.length c0) ∧ W.cell? ⟨gS + 1, 1, none⟩ = some (.slice A8 K2.length c8) ∧ W.cell? ⟨gS, 0, none⟩ = some (.int .i64 b) ∧ W.cell? ⟨gS, 1, none⟩ = some (.int .i64 ch) ∧ W.cell? ⟨gS, 2, none⟩ = some (.int .i64 1) ∧ W.cell? ⟨gS, 3, none⟩ = some (.int .i64 a1))) (ds := []) #[false, false, false, false, false] (by kernel_rfl) rfl rfl ⟨(blk_cell HLd.out.bO 0).trans rfl, (blk_cell HLd.out.bO 1).trans rfl, (blk_cell HLd.out.bS 0).trans rfl, (blk_cell HLd.out.bS 1).trans rfl, (blk_cell HLd.out.bS 2).trans rfl, (blk_cell HLd.out.bS 3).trans rfl⟩ (fun hHeld => ?_)
         clear HL2 HR2
         generalize wc.drew = wd at HLd HRd hHeld ⊢
         have h1 := HLd.out.h1
         have n10 : w.heap.size + 1 ≠ gS + 1 := by omega
         have m10 := n10.symm
         have N10 := Aside0.mk n10
         have n1S : w.heap.size + 1 ≠ gS := by omega
         have m1S := n1S.symm
         have N1S := Aside0.mk n1S
         have n20 : w.heap.size + 1 + 1 ≠ gS + 1 := by omega
         have m20 := n20.symm
         have N20 := Aside0.mk n20
         have n2S : w.heap.size + 1 + 1 ≠ gS := by omega
         have m2S := n2S.symm
         have N2S := Aside0.mk n2S
         have n21 : w.heap.size + 1 + 1 ≠ w.heap.size + 1 := by omega
         have m21 := n21.symm
         have N21 := Aside0.mk n21
         refine take_ (i := 0) (N := some 146) (v := ?_) (a' := ?_) #[true, false, false, false, false] rfl rfl (by kernel_rfl) (fun _ _ _ h => h) (Or.inl ⟨by rfl, ?_⟩) hHeld ?_ ?_
         rotate_left
         ·
          rintro w' ⟨p0, p1, p2, p3, p4, p5⟩
          go_simp
          with_reducible rfl
         rotate_left
         ·
          simp only [Act.put, List.setIfInBounds_toArray, List.set_cons_zero, List.set_cons_succ, i64_w, i32_w]
          rfl
         refine take_ (i := 1) (N := some 147) (v := ?_) (a' := ?_) #[true, true, false, false, false] rfl rfl (by kernel_rfl) (fun _ _ _ h => h) (Or.inl ⟨by rfl, ?_⟩) hHeld ?_ ?_
         rotate_left
         ·
          rintro w' ⟨p0, p1, p2, p3, p4, p5⟩
          go_simp
          with_reducible rfl
         rotate_left
         ·
          simp only [Act.put, List.setIfInBounds_toArray, List.set_cons_zero, List.set_cons_succ, i64_w, i32_w]
          rfl
         refine one_ (i := 2) (N := none) #[true, true, true, false, false] rfl rfl (by kernel_rfl) (by decide) (fun K hK => ?_)
         have hd0 : wd.cell? ⟨w.heap.size + 1, 0, none⟩ = some (.slice none 0 0) := (blk_cell HLd.out.b1 0).trans rfl
         have hd1 : wd.cell? ⟨w.heap.size + 1, 1, none⟩ = some (.slice none 0 0) := (blk_cell HLd.out.b1 1).trans rfl
         have hdf := fun j => blk_frozen HLd.out.b1 j
         refine skip_ (w1 := ?_) (by rfl) rfl ?_ ?_
         rotate_left
         ·
          go_simp
          rfl
         refine hK.out _ _ ⟨cell_set2 (hHeld.1) N10.out, cell_set2 (hHeld.2.1) N10.out, cell_set2 (hHeld.2.2.1) N1S.out, cell_set2 (hHeld.2.2.2.1) N1S.out, cell_set2 (hHeld.2.2.2.2.1) N1S.out, cell_set2 (hHeld.2.2.2.2.2) N1S.out⟩ (fun hHeld => ?_)
         clear hK K
         refine one_ (i := 3) (N := none) #[true, true, true, true, false] rfl rfl (by kernel_rfl) (by decide) (fun K hK => ?_)
         have he0 : wd.cell? ⟨w.heap.size + 1 + 1, 0, none⟩ = some (.int .i64 0) := (blk_cell HLd.out.b2 0).trans rfl
         have he1 : wd.cell? ⟨w.heap.size + 1 + 1, 1, none⟩ = some (.int .i64 0) := (blk_cell HLd.out.b2 1).trans rfl
         have he2 : wd.cell? ⟨w.heap.size + 1 + 1, 2, none⟩ = some (.int .i64 0) := (blk_cell HLd.out.b2 2).trans rfl
         have he3 : wd.cell? ⟨w.heap.size + 1 + 1, 3, none⟩ = some (.int .i64 0) := (blk_cell HLd.out.b2 3).trans rfl
         have hef := fun j => blk_frozen HLd.out.b2 j
         refine skip_ (w1 := ?_) (by rfl) rfl ?_ ?_
         rotate_left
         ·
          go_simp
          rfl
         refine hK.out _ _ ⟨cell_set4 (hHeld.1) N20.out, cell_set4 (hHeld.2.1) N20.out, cell_set4 (hHeld.2.2.1) N2S.out, cell_set4 (hHeld.2.2.2.1) N2S.out, cell_set4 (hHeld.2.2.2.2.1) N2S.out, cell_set4 (hHeld.2.2.2.2.2) N2S.out⟩ (fun hHeld => ?_)
         clear hK K
         refine pure_ (i := 4) (N := some 6) (v := ?_) (a' := ?_) #[true, true, true, true, true] rfl rfl (by kernel_rfl) (fun _ _ _ h => h) (Or.inl ⟨by rfl, ?_⟩) ?_ ?_
         rotate_left
         ·
          intro w'
          go_simp
          with_reducible rfl
         rotate_left
         ·
          simp only [Act.put, List.setIfInBounds_toArray, List.set_cons_zero, List.set_cons_succ, i64_w, i32_w]
          rfl
         refine done_ (by kernel_rfl) ?_
         try go_wp2
         have HF := finW_below (B1 := w.heap.size + 1) (B2 := w.heap.size + 1 + 1) HLd.out.hB (by omega) (by omega) (.slice A0 l0_0.length c0) (.slice A8 K2.length c8) (.int .i64 b) (.int .i64 ch) (.int .i64 1) (.int .i64 a1)
         refine bodyPost_ret (results_cct rfl _ _ (w.heap.size + 1) (w.heap.size + 1 + 1) 25 29 #[.slice A0 l0_0.length c0, .slice A8 K2.length c8] #[.int .i64 b, .int .i64 ch, .int .i64 1, .int .i64 a1] (0, 0) (0, 0) _ _ rfl (finW_b1 HLd.out.b1 (by omega) _ _ _ _ _ _) Try.underlying25 rfl (by kernel_rfl) rfl (finW_b2 HLd.out.b2 (by omega) _ _ _ _ _ _) Try.underlying29 rfl (by kernel_rfl)) rfl ?_
         rw [HCHE.out, ← HK2.out]
         have HRF := finW_R (B1 := w.heap.size + 1) (B2 := w.heap.size + 1 + 1) (Kd.R_bound HRd.out) (fun k hk => by have h1 := hk.2.1; have h2 := HLd.out.h1; have h3 := HLd.out.h2; constructor <;> omega) (.slice A0 l0_0.length c0) (.slice A8 K2.length c8) (.int .i64 b) (.int .i64 ch) (.int .i64 1) (.int .i64 a1)
         exact ⟨_, _, rfl, Kd.V_mono (Kd.V_below HS0.out HF) (fun k hk => Or.inl (Or.inl hk)), Kd.V_mono (Kd.V_lower (Kd.R_V HRF) (by have h2 := HLd.out.h1; have h3 := HLd.out.h2; omega)) (fun k hk => Or.inr (by have h1 := hk.2.1; have h2 := HLd.out.h1; have h3 := HLd.out.h2; omega)), HF⟩
/-- What it computes: at a right pool of 200 slots at most what pool.Lease computes. -/
def interchangeref13_Lease.f (k : Nat) (M : List Int) (L : List S29) (who : Int) : Option (List Int × List S29 × Int × Int × Int × Int × Int) :=
 if pool_Right.f M L = some true ∧ L.length ≤ 200 then pool_Lease.f M L who else none
theorem interchangeref13_Lease.mono : ∀ a0 a1 a2 k, LeO (interchangeref13_Lease.f k a0 a1 a2) (interchangeref13_Lease.f (k + 1) a0 a1 a2) := fun _ _ _ _ => LeO.refl _
theorem interchangeref13_Lease.calls (k : Nat) (P0 : Nat → Prop) (A0 : Option Addr) (c0 : Nat) (l0_0 : List Int) (P1 : Nat → Prop) (A : Option Addr) (c : Nat) (l : List S29) (a1 : Int) (r1 : List Int) (r2 : List S29) (r3 r4 r5 r6 r7 : Int) (w : World) (hs0 : Kd.V (Kd.int .i64) 3 w w.heap.size (fun k_ => P0 k_) (.slice A0 l0_0.length c0) l0_0) (hs1 : Kd.V k29 29 w w.heap.size (fun k_ => P1 k_) (.slice A l.length c) l) (h : interchangeref13_Lease.f k l0_0 l a1 = some (r1, r2, r3, r4, r5, r6, r7)) :
  Calls Try.prog 33 #[.agg #[.slice A0 l0_0.length c0, .slice A l.length c], .int .i64 a1] w fun e w' => ∃ v0_ v1_ : Value, e = .returned (.tuple #[.agg #[v0_, v1_], .agg #[.int .i64 r3, .int .i64 r4, .int .i64 r5, .int .i64 r6], .int .i64 r7]) ∧ Kd.V (Kd.int .i64) 3 w' w.heap.size (fun k_ => ((P0 k_ ∨ P1 k_) ∨ w.heap.size ≤ k_)) v0_ r1 ∧ Kd.V k29 29 w' w.heap.size (fun k_ => ((P0 k_ ∨ P1 k_) ∨ w.heap.size ≤ k_)) v1_ r2 ∧ Below w.heap.size w w' := by
 unfold interchangeref13_Lease.f at h
 by_cases hg : pool_Right.f l0_0 l = some true ∧ l.length ≤ 200
 ·
  rw [if_pos hg] at h
  have hR := RightL.of ((pool_Right_val hg.1).1 rfl)
  unfold pool_Lease.f at h
  by_cases hlow : a1 < 1
  ·
   rw [if_pos hlow] at h
   simp only [Option.some.injEq, Prod.mk.injEq] at h
   obtain ⟨rfl, rfl, rfl, rfl, rfl, rfl, rfl⟩ := h
   exact RLease_low P0 A0 c0 l0_0 P1 A c l a1 w hs0 hs1 hlow
  ·
   rw [if_neg hlow] at h
   cases hf : l.find? (ofP a1) with
   | some s =>
    rw [hf] at h
    simp only [Option.some.injEq, Prod.mk.injEq] at h
    obtain ⟨rfl, rfl, rfl, rfl, rfl, rfl, rfl⟩ := h
    exact RLease_had P0 A0 c0 l0_0 P1 A c l a1 w hs0 hs1 hlow s hf (by omega)
   | none =>
    rw [hf] at h
    simp only [] at h
    split at h
    ·
     exact RLease_go P0 A0 c0 l0_0 P1 A c l a1 w r1 r2 r3 r4 r5 r6 r7 hs0 hs1 hlow hf hR hg.2 h
    ·
     cases h
 ·
  rw [if_neg hg] at h; cases h
end Go.Proofs.Ytgiofigjnchfeaa.Q
