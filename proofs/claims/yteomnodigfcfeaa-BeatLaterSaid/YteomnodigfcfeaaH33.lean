/- slices.Clone at []api.Due: what it computes, and that its call does so. -/
import Derived.Test.YteomnodigfcfeaaH36
import Derived.Test.YteomnodigfcfeaaC
import Derived.WalkSpells
namespace Go.Proofs.Yteomnodigfcfeaa.Q
open Go.RowKit Go.Proofs.YteomnodigfcfeaaW.PrintWords Go.Proofs.YteomnodigfcfeaaW.PrintLast Go.Proofs.YteomnodigfcfeaaW.PrintMore
set_option linter.unusedVariables false
set_option linter.unusedSimpArgs false
theorem Flat.k24 : Flat k24 := Flat.iso (Flat.pair (Flat.int _) (Flat.int _)) _
theorem C_none {α : Type} {d : Kd α} {w : World} {n : Nat} {xs : List α} (h : d.C w none n xs) : xs = [] ∧ n = 0 := by
  have h0 : n = 0 := by
    rcases Nat.eq_zero_or_pos n with h0 | h0
    · exact h0
    · obtain ⟨ad, h, _⟩ := h.2.2 h0
      cases h
  exact ⟨List.eq_nil_of_length_eq_zero (by rw [h.1, h0]), h0⟩

set_option maxHeartbeats 8000000 in
set_option maxRecDepth 100000 in
theorem slices_Clone.calls (A0 : Option Addr) (c0 : Nat) (l0 : List S24) (w : World) (hC : Kd.C k24 w A0 l0.length l0) (hr : l0.length ≤ 8796093022000) :
    Calls Try.prog 33 #[.slice A0 l0.length c0] w fun e w' => ∃ v : Value, e = .returned v ∧ Kd.R k24 24 w' w.heap.size (fun _ => True) v l0 ∧ Below w.heap.size w w' := by
  have HC := Aside0.mk hC
  clear hC
  have hq := fun (W : World) (a : Option Addr) (n c : Nat) => Lib.run_eql_slice_nil (P := Try.prog) W 22 24 a n c 0 0 Try.underlying22
  cases A0 with
  | none =>
    obtain ⟨rfl, _⟩ := C_none HC.out
    go_enter Try.func33, Try.ntmps33
    go_wp2
    go_ret
    exact ⟨_, rfl, Kd.R_nil _ _ _ _ _, Below.refl _ _⟩
  | some ad =>
    go_enter Try.func33, Try.ntmps33
    go_wp2_with (at_builtin; refine Kd.R_append_rows k24 (Rr := k24.K w) (w0 := w) w.heap.size rfl (.tmp 5) (.tmp 6) 22 24 (.agg #[.int .i64 0, .int .i64 0]) 16 rfl Try.underlying22 info24 rfl (by decide) (by decide) (.slice (some ⟨w.heap.size, 0, none⟩) 0 0) [] l0 (some ad) l0.length c0 (fun _ => True) (fun _ => False) rfl rfl ?aO ?aR (fun x cs h => Flat.k24 _ _ _ _ _ _ h) (fun _ h => h.elim) (fun _ _ => trivial) ?aB ?aS ?aL ?_; (case aO => exact R_lit0 _ 24 w); (case aR => exact Kd.C_alloc HC.out _); (case aB => exact below_alloc (Below.refl _ _) _); (case aS => simp); (case aL => simp; omega); intro v1 w1 ho hb hgr hat)
    go_ret
    exact ⟨_, rfl, ho, hb⟩

/-- A row of one's own that isn't empty lies in a block. -/
theorem R_Row {w : World} {base : Nat} {ok : Nat → Prop} {v : Value} {l : List S24} (h : Kd.R k24 24 w base ok v l) (hl : 0 < l.length) : ∃ g c, v = .slice (some ⟨g, 0, none⟩) l.length c ∧ Row w g l ∧ base ≤ g ∧ l.length ≤ c := by
  obtain ⟨inner, ho⟩ := Kd.R_own h
  obtain ⟨ad, c, rfl⟩ := Kd.R_slice1 h hl
  obtain ⟨hil, h2⟩ := ho
  rcases h2 with ⟨he, _⟩ | ⟨g, cap, cur, he, hb, hh, hnc, hcm, hcs, ht⟩
  · cases he
  · simp only [Value.slice.injEq, Option.some.injEq] at he
    obtain ⟨rfl, _, rfl⟩ := he
    have hm : l.length ≤ 9223372036854775807 := (Kd.R_reads' h).2.2.2.1
    refine ⟨g, c, rfl, ⟨cur, hh, hm, fun i hi => ?_⟩, hb, hnc⟩
    obtain ⟨ad, e, h0, h1⟩ := at_T24 (Kd.R_reads' h).2.2 (i : Int) (by omega) (by omega)
    cases e
    rw [show rd_T24 l (i : Int) = l[i] by simp [rd_T24, hi], Int.toNat_natCast] at h0 h1
    have e0 : (Addr.add ⟨g, 0, none⟩ (i * 2)) = ⟨g, i * 2, none⟩ := by simp [Addr.add]; omega
    rw [e0] at h0 h1
    exact ⟨(blk_cell hh _).symm.trans h0, (blk_cell hh _).symm.trans h1⟩
end Go.Proofs.Yteomnodigfcfeaa.Q
