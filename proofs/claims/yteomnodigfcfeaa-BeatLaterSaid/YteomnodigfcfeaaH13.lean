/- beat.Next: what it computes, and that its call does so. -/
import Derived.Test.YteomnodigfcfeaaH28
import Derived.Test.YteomnodigfcfeaaC
namespace Go.Proofs.Yteomnodigfcfeaa.Q
open Go.RowKit Go.Proofs.YteomnodigfcfeaaW.PrintWords Go.Proofs.YteomnodigfcfeaaW.PrintLast Go.Proofs.YteomnodigfcfeaaW.PrintMore
set_option linter.unusedVariables false
set_option linter.unusedSimpArgs false

set_option maxHeartbeats 8000000 in
set_option maxRecDepth 100000 in
/-- Less, of a row that is read. -/
theorem queue_LessC (a b : S24) (A : Addr) (n c : Nat) (i k : Int) (w : World) (q1 : 0 ≤ i) (q2 : i < (n : Int)) (q3 : 0 ≤ k) (q4 : k < (n : Int))
    (hi0 : w.cell? (A.add (i.toNat * 2)) = some (.int .i64 a.f0)) (hi1 : w.cell? ⟨(A.add (i.toNat * 2)).block, (A.add (i.toNat * 2)).off + 1, none⟩ = some (.int .i64 a.f1))
    (hk0 : w.cell? (A.add (k.toNat * 2)) = some (.int .i64 b.f0)) (hk1 : w.cell? ⟨(A.add (k.toNat * 2)).block, (A.add (k.toNat * 2)).off + 1, none⟩ = some (.int .i64 b.f1)) :
    Calls Try.prog 28 #[.slice (some A) n c, .int .i64 i, .int .i64 k] w fun e w' => e = .returned (.bool (ltD a b)) ∧ Drawn0 w w' := by
  have hu24 := Try.underlying24
  unfold ltD
  by_cases h0 : a.f0 = b.f0
  · have h0b : (a.f0 == b.f0) = true := by simpa using h0
    have h0c : (a.f0 != b.f0) = false := by simpa using h0
    rw [if_pos h0]
    clear h0
    go_enter Try.func28, Try.ntmps28
    go_wp2
    go_region
    all_goals go_wp2
    all_goals go_region
    all_goals go_wp2
    all_goals go_ret
    all_goals exact ⟨rfl, ⟨2, rfl⟩⟩
  · have h0b : (a.f0 == b.f0) = false := by simpa using h0
    have h0c : (a.f0 != b.f0) = true := by simpa using h0
    rw [if_neg h0]
    clear h0
    go_enter Try.func28, Try.ntmps28
    go_wp2
    go_region
    all_goals go_wp2
    all_goals go_region
    all_goals go_wp2
    all_goals go_ret
    all_goals exact ⟨rfl, ⟨2, rfl⟩⟩

/-- The place of the least of the first ones. -/
def minI (l : List S24) : Nat → Nat
  | 0 => 0
  | i + 1 => if ltD (l.getD i z24) (l.getD (minI l i) z24) = true then i else minI l i
theorem minI_lt (l : List S24) (hl : 0 < l.length) : ∀ i, i ≤ l.length → minI l i < l.length
  | 0, _ => hl
  | i + 1, h => by
    simp only [minI]
    split
    · omega
    · exact minI_lt l hl i (by omega)
def beat_Next.f (l0 : List S24) : Option (Int × Int × Bool) := if l0.length = 0 then some (0, 0, false) else some ((l0.getD (minI l0 l0.length) z24).f0, (l0.getD (minI l0 l0.length) z24).f1, true)

set_option maxHeartbeats 8000000 in
set_option maxRecDepth 100000 in
theorem beat_Next.calls (A0 : Option Addr) (c0 : Nat) (l0 : List S24) (r1 r2 : Int) (r3 : Bool) (w : World) (hr0 : Kd.C k24 w A0 l0.length l0) (hc0 : l0.length ≤ c0) (h : beat_Next.f l0 = some (r1, r2, r3)) :
    Calls Try.prog 13 #[.slice A0 l0.length c0] w fun e w' => e = .returned (.tuple #[.agg #[.int .i64 r1, .int .i64 r2], .bool r3]) ∧ Below w.heap.size w w' := by
  unfold beat_Next.f at h
  by_cases h0 : l0.length = 0
  · rw [if_pos h0] at h
    simp only [Option.some.injEq, Prod.mk.injEq] at h
    obtain ⟨rfl, rfl, rfl⟩ := h
    rw [h0]
    go_enter Try.func13, Try.ntmps13
    go_wp2
    refine bodyPost_ret (results_ct rfl _ _ w.heap.size 24 #[.int .i64 0, .int .i64 0] (0, 0) _ rfl (blk_new _ _) Try.underlying24 rfl (by kernel_rfl)) rfl ?_
    exact ⟨rfl, below_alloc (Below.refl _ _) _⟩
  · rw [if_neg h0] at h
    simp only [Option.some.injEq, Prod.mk.injEq] at h
    obtain ⟨rfl, rfl, rfl⟩ := h
    have hm : l0.length ≤ 9223372036854775807 := hr0.2.1
    obtain ⟨n, hn⟩ : ∃ n, l0.length = n := ⟨_, rfl⟩
    have hat : ∀ (X : World), Below w.heap.size w X → ∀ (i : Nat), i < n → ∃ A, A0 = some A ∧ X.cell? (A.add (i * 2)) = some (.int .i64 (l0.getD i z24).f0) ∧ X.cell? ⟨(A.add (i * 2)).block, (A.add (i * 2)).off + 1, none⟩ = some (.int .i64 (l0.getD i z24).f1) := by
      intro X hX i hi
      obtain ⟨ad, e, h0, h1⟩ := at_T24 (Kd.C_below hr0 hX) (i : Int) (by omega) (by omega)
      rw [show rd_T24 l0 (i : Int) = l0.getD i z24 by simp [rd_T24], Int.toNat_natCast] at h0 h1
      exact ⟨ad, e, h0, h1⟩
    obtain ⟨A, rfl, -, -⟩ := hat w (Below.refl _ _) 0 (by omega)
    have hlt := minI_lt l0 (by omega)
    have HAT := Aside0.mk hat
    have HLT := Aside0.mk hlt
    obtain ⟨x, hx⟩ : ∃ x, l0.getD (minI l0 l0.length) z24 = x := ⟨_, rfl⟩
    rw [hx]
    have HX := Aside0.mk hx
    clear hx
    have hnz : ((n : Int) == 0) = false := by simp; omega
    have hpos : 0 < n := by omega
    rw [hn]
    have HN := Aside0.mk hn
    rw [hn] at hm
    clear hat hlt hn h0 hr0 hc0
    have hu24 := Try.underlying24
    go_enter Try.func13, Try.ntmps13
    go_wp2
    have hb0 : Below w.heap.size w (w.alloc (.cells #[.int .i64 0, .int .i64 0] 24)) := below_alloc (Below.refl _ _) _
    have HB0 := Aside0.mk hb0
    obtain ⟨W0, hW0⟩ : ∃ X, X = w.alloc (.cells #[.int .i64 0, .int .i64 0] 24) := ⟨_, rfl⟩
    rw [← hW0] at HB0 ⊢
    have BX : Aside0 (W0.heap[w.heap.size]? = some (.cells #[.int .i64 0, .int .i64 0] 24 (0, 0))) := ⟨by rw [hW0]; exact blk_new _ _⟩
    clear hW0 hb0
    go_loopg [6, 17] (n + 1) (fun gg v6 v17 wr => ∃ i : Nat, v17 = .int .i64 i ∧ v6 = .int .i64 (minI l0 i : Nat) ∧ i ≤ n ∧ n - i < gg ∧ Aside0 (Drawn0 W0 wr))
    case atStart => exact ⟨0, rfl, rfl, Nat.zero_le _, by omega, ⟨Drawn0.refl _⟩⟩
    case round =>
      obtain ⟨i, rfl, rfl, hi, hig, ⟨⟨nd, rfl⟩⟩⟩ := hrel
      obtain ⟨f, hf⟩ : ∃ f, minI l0 i = f := ⟨_, rfl⟩
      have hfn : f < n := by have := HLT.out i (by rw [HN.out]; exact hi); rw [hf, HN.out] at this; exact this
      have HF := Aside0.mk hf
      rw [hf]
      clear hf
      have hbW : Below w.heap.size w (W0.drewN nd) := pw_below_drewN HB0.out nd
      obtain ⟨_, e2, hf0, hf1⟩ := HAT.out _ hbW f hfn
      cases e2
      by_cases c : i < n
      · have cz : (i : Int) < (n : Int) := by omega
        obtain ⟨_, e3, hi0, hi1⟩ := HAT.out _ hbW i c
        cases e3
        have hc := queue_LessC (l0.getD i z24) (l0.getD f z24) A n c0 (i : Int) (f : Int) (W0.drewN nd) (by omega) cz (by omega) (by omega) hi0 hi1 hf0 hf1
        cases hlt : ltD (l0.getD i z24) (l0.getD f z24) with
        | true =>
          rw [hlt] at hc
          have HC := Aside0.mk hc
          have HM : Aside0 (minI l0 (i + 1) = i) := ⟨by simp only [minI]; rw [HF.out, hlt]; rfl⟩
          clear hc hlt hf0 hf1 hi0 hi1 hbW
          go_wp2_with (go_at_call 28; refine HC.out.mono ?_; rintro e w5 ⟨rfl, ⟨nd2, rfl⟩⟩; clear HC)
          go_roundg (n - i)
          case measure => omega
          case rel => exact ⟨i + 1, by go_num, by rw [HM.out], by omega, by omega, ⟨⟨nd + nd2, rfl⟩⟩⟩
        | false =>
          rw [hlt] at hc
          have HC := Aside0.mk hc
          have HM : Aside0 (minI l0 (i + 1) = f) := ⟨by simp only [minI]; rw [HF.out, hlt]; rfl⟩
          clear hc hlt hf0 hf1 hi0 hi1 hbW
          go_wp2_with (go_at_call 28; refine HC.out.mono ?_; rintro e w5 ⟨rfl, ⟨nd2, rfl⟩⟩; clear HC)
          go_roundg (n - i)
          case measure => omega
          case rel => exact ⟨i + 1, by go_num, by rw [HM.out], by omega, by omega, ⟨⟨nd + nd2, rfl⟩⟩⟩
      · obtain rfl : i = n := by omega
        have cz : ¬ (i : Int) < (i : Int) := by omega
        have cf0 : (0 : Int) ≤ (f : Int) := by omega
        have cf1 : (f : Int) < (i : Int) := by omega
        have hbx := blk_drewN BX.out nd
        have hc0' : (W0.drewN nd).cell? ⟨w.heap.size, 0, none⟩ = some (.int .i64 0) := (blk_cell hbx 0).trans rfl
        have hc1' : (W0.drewN nd).cell? ⟨w.heap.size, 1, none⟩ = some (.int .i64 0) := (blk_cell hbx 1).trans rfl
        have hfz := fun j => blk_frozen hbx j
        have hfx : l0.getD f z24 = x := by have := HX.out; rw [HN.out, HF.out] at this; exact this
        rw [hfx] at hf0 hf1
        clear hfx
        have HBX := Aside0.mk hbx
        clear hbx hbW
        go_wp2
        refine bodyPost_ret (results_ct rfl _ _ w.heap.size 24 #[.int .i64 x.f0, .int .i64 x.f1] (0, 0) _ rfl (by refine blk_put (cs := #[.int .i64 x.f0, .int .i64 0]) ?_ 1 _ rfl; refine blk_put (cs := #[.int .i64 0, .int .i64 0]) ?_ 0 _ rfl; exact HBX.out) Try.underlying24 rfl (by kernel_rfl)) rfl ?_
        refine ⟨rfl, ?_⟩
        refine below_set (below_set (pw_below_drewN HB0.out nd) ?_) ?_ <;> simp
end Go.Proofs.Yteomnodigfcfeaa.Q
