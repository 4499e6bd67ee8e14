/- The plain law of NamesMade. -/
import Derived.Test.YtobdcmgdodahgaaDoorL18
import Derived.Test.YtobdcmgdodahgaaDoorH9
import Derived.Test.YtobdcmgdodahgaaDoorQ5
namespace Go.Proofs.YtobdcmgdodahgaaDoor.Pure
open Go.RowKit Go.Proofs.YtobdcmgdodahgaaDoor.Q Go.Proofs.YtobdcmgdodahgaaDoorW.PrintWords Go.Proofs.YtobdcmgdodahgaaDoorW.PrintLast Go.Proofs.YtobdcmgdodahgaaDoorW.PrintMore
set_option linter.unusedVariables false
set_option linter.unusedSimpArgs false

theorem Made_l0 (who : Int) (hwho : who ≤ 9223372036854775807) (a1 most : Int) (ha : a1 ≤ 60) : ∀ (r i : Nat) (l : List S31) (made : Int), (i : Int) + r = a1 → RL who l → 0 ≤ made → made < 18446744073709551616 → l.length ≤ 200 + i → (∀ x ∈ l, x.f0.size ≤ 140737488351232) →
    Evt (fun k => interchangelaw17_NamesMade.l0 k a1 most true i who made l) true
  | 0, i, l, made, hi, hr, h0, h1, hl, hx => by
    have hR := Right_true (made := made) hwho ⟨by omega, hx⟩ ((RL_iff _ _).2 hr)
    refine Evt.succ (h := fun k => (interchangeref17_Right.f k who made l).bind fun t => some t) (fun k => ?_) (Evt.bind hR (Evt.const _))
    simp only [interchangelaw17_NamesMade.l0]
    rw [if_neg (by omega), if_pos trivial]
  | r + 1, i, l, made, hi, hr, h0, h1, hl, hx => by
    have hlt : (i : Int) < a1 := by omega
    have hnil : (⟨#[]⟩ : ByteArray).toList = [] := tl_mk []
    rcases add_cases who made l ⟨#[]⟩ false most hwho hr h0 h1 (by omega) (by rw [← tl_len, hnil]; simp) with ⟨hm, e⟩ | ⟨_, h, _⟩ | ⟨_, h, _⟩ | ⟨hm, m, made', _, hm1, hm2, h0', h1', hnew, hus, e⟩
    · have hR := Right_true (made := made) hwho ⟨by omega, hx⟩ ((RL_iff _ _).2 hr)
      refine Evt.succ (h := fun k => (interchangeref17_Right.f k who made l).bind fun t => some t) (fun k => ?_) (Evt.bind hR (Evt.const _))
      simp only [interchangelaw17_NamesMade.l0]
      rw [if_pos hlt, e, Option.bind_some]
      dsimp only
      rw [decide_eq_false (by omega : ¬ (l.length : Int) < most), if_neg (by decide), if_neg (by decide), if_pos trivial]
    · exact absurd hnil h
    · exact absurd hnil h
    · have hlen : (l ++ [(⟨m, upS who m, false⟩ : S31)]).length = l.length + 1 := by simp
      have ih := Made_l0 who hwho a1 most ha r (i + 1) (l ++ [⟨m, upS who m, false⟩]) made' (by omega) (hr.add hm1 hnew hus) h0' h1' (by rw [hlen]; omega) (by
        intro x hxm
        rcases List.mem_append.1 hxm with h | h
        · exact hx x h
        · rw [List.mem_singleton.1 h]; exact hm2)
      have hw : wrap64 ((i : Int) + 1) = ((i + 1 : Nat) : Int) := by unfold wrap64; omega
      refine Evt.succ (fun k => ?_) ih
      simp only [interchangelaw17_NamesMade.l0]
      rw [if_pos hlt, e, Option.bind_some]
      dsimp only
      unfold names_To.f
      rw [decide_eq_true hm, if_neg (by decide), if_pos rfl, Option.bind_some]
      dsimp only
      rw [(findR_mineP m l).2 hnew, if_neg (by decide), if_neg hm1, hw]
theorem NamesMade (a0_0 : Int) (w0 : (Lit.int .i64 a0_0).wf = true) (a0_1 : Int) (w1 : (Lit.int .u64 a0_1).wf = true) (l : List S31) (hb : l.length * 40 ≤ 140737488351232) (hx : ∀ x ∈ l, x.f0.size ≤ 140737488351232 ∧ x.f1.size ≤ 140737488351232 ∧ True) (a1 : Int) (w2 : (Lit.int .i64 a1).wf = true) (a2 : Int) (w3 : (Lit.int .i64 a2).wf = true) :
    ∃ k, interchangelaw17_NamesMade.f k a0_0 a0_1 l a1 a2 = some true := by
  have h0 := i64_wf w0
  have h1 := u64_wf w1
  obtain ⟨v, hv, hv2⟩ := Right_ev a0_0 a0_1 l h0.2 ⟨by omega, fun x h => (hx x h).1⟩
  obtain ⟨K, hK⟩ := hv
  replace hK : ∀ k, K ≤ k → interchangeref17_Right.f k a0_0 a0_1 l = some v := hK
  have htrue : ∀ k, interchangelaw17_NamesMade.j0 (k + 1) a1 a2 true true a0_0 a0_1 l = some true := by
    intro k
    simp only [interchangelaw17_NamesMade.j0]
    exact if_pos trivial
  have hf : ∀ k, K ≤ k → ∀ x, (interchangelaw17_NamesMade.f k a0_0 a0_1 l a1 a2 = x ↔ (if v = true then (if a1 < 0 then (interchangelaw17_NamesMade.j0 k a1 a2 true true a0_0 a0_1 l) else (if a1 > 60 then (interchangelaw17_NamesMade.j0 k a1 a2 true true a0_0 a0_1 l) else (interchangelaw17_NamesMade.j0 k a1 a2 true (decide ((l.length : Int) > 200)) a0_0 a0_1 l))) else (interchangelaw17_NamesMade.j0 k a1 a2 true true a0_0 a0_1 l)) = x) := by
    intro k hk x
    unfold interchangelaw17_NamesMade.f
    rw [interchangelaw17_shown_true, Option.bind_some, hK k hk, Option.bind_some]
  cases v with
  | false => exact ⟨K + 1, by rw [hf _ (by omega), if_neg (by decide)]; exact htrue K⟩
  | true =>
    have hr := (RL_iff _ _).1 (hv2.1 rfl)
    by_cases c1 : a1 < 0
    · exact ⟨K + 1, by rw [hf _ (by omega), if_pos rfl, if_pos c1]; exact htrue K⟩
    · by_cases c2 : a1 > 60
      · exact ⟨K + 1, by rw [hf _ (by omega), if_pos rfl, if_neg c1, if_pos c2]; exact htrue K⟩
      · by_cases c3 : (l.length : Int) > 200
        · exact ⟨K + 1, by rw [hf _ (by omega), if_pos rfl, if_neg c1, if_neg c2, decide_eq_true c3]; exact htrue K⟩
        · obtain ⟨K2, h2⟩ := Made_l0 a0_0 h0.2 a1 a2 (by omega) a1.toNat 0 l a0_1 (by omega) hr h1.1 (by omega) (by omega) (fun x h => (hx x h).1)
          replace h2 : ∀ k, K2 ≤ k → interchangelaw17_NamesMade.l0 k a1 a2 true 0 a0_0 a0_1 l = some true := h2
          refine ⟨max K K2 + 1, ?_⟩
          rw [hf _ (by omega), if_pos rfl, if_neg c1, if_neg c2, decide_eq_false c3]
          simp only [interchangelaw17_NamesMade.j0]
          rw [if_neg (by decide)]
          exact h2 _ (Nat.le_max_right _ _)
end Go.Proofs.YtobdcmgdodahgaaDoor.Pure
