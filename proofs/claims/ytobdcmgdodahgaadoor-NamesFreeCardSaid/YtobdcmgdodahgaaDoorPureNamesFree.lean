/- The plain law of NamesFree. -/
import Derived.Test.YtobdcmgdodahgaaDoorL18
import Derived.Test.YtobdcmgdodahgaaDoorH9
import Derived.Test.YtobdcmgdodahgaaDoorQ7
namespace Go.Proofs.YtobdcmgdodahgaaDoor.Pure
open Go.RowKit Go.Proofs.YtobdcmgdodahgaaDoor.Q Go.Proofs.YtobdcmgdodahgaaDoorW.PrintWords Go.Proofs.YtobdcmgdodahgaaDoorW.PrintLast Go.Proofs.YtobdcmgdodahgaaDoorW.PrintMore
set_option linter.unusedVariables false
set_option linter.unusedSimpArgs false

theorem Free_j1 (l : List S31) (who made : Int) (hr : RL who l) (a1 : Int) (b : Bool) (hb : b = false → 0 ≤ a1 ∧ a1 < (l.length : Int)) : Evt (fun k => interchangelaw17_NamesFree.j1 k a1 true b who made l) true := by
  refine Evt.succ (h := fun _ => some true) (fun k => ?_) (Evt.const _)
  simp only [interchangelaw17_NamesFree.j1]
  cases b with
  | true => rw [if_pos rfl]
  | false =>
    obtain ⟨h0, h1⟩ := hb rfl
    obtain ⟨i, rfl⟩ : ∃ i : Nat, a1 = i := ⟨a1.toNat, by omega⟩
    have hi : i < l.length := by omega
    have hm : l[i] ∈ l := List.getElem_mem hi
    rw [if_neg (by decide), if_pos h0, if_pos h1, rd31_nat hi]
    unfold names_To.f names_From.f
    rw [hr.mine hm, hr.up hm]
    simp
theorem Free_j0 (l : List S31) (who made : Int) (hr : RL who l) (a1 : Int) : Evt (fun k => interchangelaw17_NamesFree.j0 k a1 true who made l) true := by
  by_cases h0 : a1 < 0
  · refine Evt.succ (fun k => ?_) (Free_j1 l who made hr a1 true (fun h => by cases h))
    simp only [interchangelaw17_NamesFree.j0]
    rw [if_pos h0]
  · refine Evt.succ (fun k => ?_) (Free_j1 l who made hr a1 (decide (a1 ≥ (l.length : Int))) (fun h => by have := of_decide_eq_false h; omega))
    simp only [interchangelaw17_NamesFree.j0]
    rw [if_neg h0]
theorem NamesFree (a0_0 : Int) (w0 : (Lit.int .i64 a0_0).wf = true) (a0_1 : Int) (w1 : (Lit.int .u64 a0_1).wf = true) (l : List S31) (hb : l.length * 40 ≤ 140737488351232) (hx : ∀ x ∈ l, x.f0.size ≤ 140737488351232 ∧ x.f1.size ≤ 140737488351232 ∧ True) (a1 : Int) (w2 : (Lit.int .i64 a1).wf = true) (a2 : ByteArray) (w3 : a2.size ≤ 140737488351232) :
    ∃ k, interchangelaw17_NamesFree.f k a0_0 a0_1 l a1 a2 = some true := by
  have h0 := i64_wf w0
  obtain ⟨v, hv, hv2⟩ := Right_ev a0_0 a0_1 l h0.2 ⟨by omega, fun x h => (hx x h).1⟩
  obtain ⟨K, hK⟩ := hv
  replace hK : ∀ k, K ≤ k → interchangeref17_Right.f k a0_0 a0_1 l = some v := hK
  cases v with
  | false =>
    refine ⟨K, ?_⟩
    unfold interchangelaw17_NamesFree.f
    rw [interchangelaw17_shown_true, Option.bind_some, hK K (Nat.le_refl _), Option.bind_some, if_neg (by decide)]
  | true =>
    have hr := (RL_iff _ _).1 (hv2.1 rfl)
    obtain ⟨K2, h2⟩ := Free_j0 l a0_0 a0_1 hr a1
    refine ⟨max K K2, ?_⟩
    have e2 : interchangelaw17_NamesFree.j0 (max K K2) a1 true a0_0 a0_1 l = some true := h2 (max K K2) (Nat.le_max_right _ _)
    unfold interchangelaw17_NamesFree.f
    rw [interchangelaw17_shown_true, Option.bind_some, hK (max K K2) (Nat.le_max_left _ _), Option.bind_some, if_pos rfl]
    unfold names_From.f
    rw [Option.bind_some]
    rcases findR_cases (upP a2) l with ⟨x, hx1, hp, hf⟩ | ⟨hn, hf⟩
    · rw [hf]
      unfold names_To.f
      dsimp only
      rw [hr.mine hx1, if_pos rfl, Option.bind_some]
      dsimp only
      rw [if_pos rfl, if_neg (by simp), if_pos (by rw [upP_iff.1 hp])]
      exact e2
    · rw [hf]
      exact e2
end Go.Proofs.YtobdcmgdodahgaaDoor.Pure
