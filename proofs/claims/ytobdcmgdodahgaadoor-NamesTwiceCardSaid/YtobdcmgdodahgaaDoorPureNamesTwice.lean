/- The plain law of NamesTwice. -/
import Derived.Test.YtobdcmgdodahgaaDoorL18
import Derived.Test.YtobdcmgdodahgaaDoorH9
import Derived.Test.YtobdcmgdodahgaaDoorQ8
namespace Go.Proofs.YtobdcmgdodahgaaDoor.Pure
open Go.RowKit Go.Proofs.YtobdcmgdodahgaaDoor.Q Go.Proofs.YtobdcmgdodahgaaDoorW.PrintWords Go.Proofs.YtobdcmgdodahgaaDoorW.PrintLast Go.Proofs.YtobdcmgdodahgaaDoorW.PrintMore
set_option linter.unusedVariables false
set_option linter.unusedSimpArgs false

theorem Twice_j0 (l : List S31) (who made : Int) (hwho : who ≤ 9223372036854775807) (hr : RL who l) (h0 : 0 ≤ made) (h1 : made < 18446744073709551616) (hl : l.length ≤ 3518437208780) (mine : ByteArray) (hm : mine.size ≤ 140737488351232) (most : Int) (b : Bool) (hb : b = false → mine.toList ≠ [] ∧ most ≤ 1099511627776) (hmost : -9223372036854775808 ≤ most) :
    Evt (fun k => interchangelaw17_NamesTwice.j0 k mine most true b who made l) true := by
  refine Evt.succ (h := fun _ => some true) (fun k => ?_) (Evt.const _)
  simp only [interchangelaw17_NamesTwice.j0]
  cases b with
  | true => rw [if_pos rfl]
  | false =>
    obtain ⟨hne, hmo⟩ := hb rfl
    rw [if_neg (by decide)]
    rcases add_cases who made l mine false most hwho hr h0 h1 (by omega) hm with ⟨_, e⟩ | ⟨_, _, _, e⟩ | ⟨_, _, _, _, e⟩ | ⟨hlt, m, made', hmm, hm1, hm2, h0', h1', hnew, hus, e⟩
    · rw [e]; rfl
    · rw [e]; rfl
    · rw [e]; rfl
    · obtain rfl := hmm hne
      rw [e, Option.bind_some]
      dsimp only
      rw [if_pos rfl]
      have hr2 : RL who (l ++ [⟨m, upS who m, false⟩]) := hr.add hm1 hnew hus
      have hw : wrap64 (most + 1) = most + 1 := by unfold wrap64; omega
      have hlen : (l ++ [(⟨m, upS who m, false⟩ : S31)]).length = l.length + 1 := by simp
      have e2 : names_Add.f who made' (l ++ [⟨m, upS who m, false⟩]) m true (wrap64 (most + 1)) = some (who, made', l ++ [⟨m, upS who m, false⟩], ⟨#[]⟩, ⟨#[]⟩, false, 14) := by
        rcases add_cases who made' (l ++ [⟨m, upS who m, false⟩]) m true (wrap64 (most + 1)) hwho hr2 h0' h1' (by rw [hlen]; omega) hm with ⟨h, _⟩ | ⟨_, _, _, e⟩ | ⟨_, _, h, _⟩ | ⟨_, m2, _, hmm, _, _, _, _, h, _⟩
        · rw [hlen, hw] at h; omega
        · exact e
        · exact absurd rfl (h ⟨m, upS who m, false⟩ (by simp))
        · obtain rfl := hmm hne
          exact absurd rfl (h ⟨m2, upS who m2, false⟩ (by simp))
      rw [e2, Option.bind_some]
      dsimp only
      have hdrop : dropL m (l ++ [⟨m, upS who m, false⟩]) = l := by
        unfold dropL
        rw [List.filter_append]
        have e3 : l.filter (fun x => !mineP m x) = l := by
          rw [List.filter_eq_self]
          intro x hx
          cases hq : mineP m x with
          | true => exact absurd (mineP_iff.1 hq) (hnew x hx)
          | false => rfl
        rw [e3]
        have e4 : mineP m ⟨m, upS who m, false⟩ = true := mineP_iff.2 rfl
        rw [List.filter_cons_of_neg (by rw [e4]; decide), List.filter_nil, List.append_nil]
      have e5 : names_Drop.f who made' (l ++ [⟨m, upS who m, false⟩]) m = some (who, made', l, true) := by
        unfold names_Drop.f
        rw [if_pos (by rw [hlen]; omega), hdrop, decide_eq_true (by rw [hlen]; omega)]
      rw [e5, Option.bind_some]
      dsimp only
      rcases add_cases who made' l m true most hwho hr h0' h1' (by omega) hm with ⟨h, _⟩ | ⟨_, _, ⟨x, hx, hxe⟩, _⟩ | ⟨_, _, _, h, _⟩ | ⟨_, m2, made2, hmm2, _, _, _, _, _, _, e6⟩
      · omega
      · exact absurd hxe (hnew x hx)
      · omega
      · obtain rfl := hmm2 hne
        rw [e6, Option.bind_some]
        dsimp only
        rw [if_pos rfl, if_pos rfl, if_pos rfl, if_pos rfl, if_pos rfl]
        exact if_pos trivial
theorem NamesTwice (a0_0 : Int) (w0 : (Lit.int .i64 a0_0).wf = true) (a0_1 : Int) (w1 : (Lit.int .u64 a0_1).wf = true) (l : List S31) (hb : l.length * 40 ≤ 140737488351232) (hx : ∀ x ∈ l, x.f0.size ≤ 140737488351232 ∧ x.f1.size ≤ 140737488351232 ∧ True) (a1 : ByteArray) (w2 : a1.size ≤ 140737488351232) (a2 : Int) (w3 : (Lit.int .i64 a2).wf = true) :
    ∃ k, interchangelaw17_NamesTwice.f k a0_0 a0_1 l a1 a2 = some true := by
  have h0 := i64_wf w0
  have h1 := u64_wf w1
  have h3 := i64_wf w3
  obtain ⟨v, hv, hv2⟩ := Right_ev a0_0 a0_1 l h0.2 ⟨by omega, fun x h => (hx x h).1⟩
  obtain ⟨K, hK⟩ := hv
  replace hK : ∀ k, K ≤ k → interchangeref17_Right.f k a0_0 a0_1 l = some v := hK
  have hf : ∀ k, K ≤ k → interchangelaw17_NamesTwice.f k a0_0 a0_1 l a1 a2 = if v = true then (if a1.toList = ([] : List UInt8) then (interchangelaw17_NamesTwice.j0 k a1 a2 true true a0_0 a0_1 l) else (interchangelaw17_NamesTwice.j0 k a1 a2 true (decide (a2 > 1099511627776)) a0_0 a0_1 l)) else (interchangelaw17_NamesTwice.j0 k a1 a2 true true a0_0 a0_1 l) := by
    intro k hk
    unfold interchangelaw17_NamesTwice.f
    rw [interchangelaw17_shown_true, Option.bind_some, hK k hk, Option.bind_some]
  have htrue : ∀ k, interchangelaw17_NamesTwice.j0 (k + 1) a1 a2 true true a0_0 a0_1 l = some true := by
    intro k
    simp only [interchangelaw17_NamesTwice.j0]
    exact if_pos trivial
  cases v with
  | false => exact ⟨K + 1, by rw [hf _ (by omega), if_neg (by decide)]; exact htrue K⟩
  | true =>
    have hr := (RL_iff _ _).1 (hv2.1 rfl)
    by_cases hn : a1.toList = []
    · exact ⟨K + 1, by rw [hf _ (by omega), if_pos rfl, if_pos hn]; exact htrue K⟩
    · obtain ⟨K2, h2⟩ := Twice_j0 l a0_0 a0_1 h0.2 hr h1.1 (by omega) (by omega) a1 w2 a2 (decide (a2 > 1099511627776)) (fun h => ⟨hn, by have := of_decide_eq_false h; omega⟩) h3.1
      exact ⟨max K K2, by rw [hf _ (Nat.le_max_left _ _), if_pos rfl, if_neg hn]; exact h2 _ (Nat.le_max_right _ _)⟩
end Go.Proofs.YtobdcmgdodahgaaDoor.Pure
