/- PoolFresh: the plain law. -/
import Derived.Test.YtgiofigjnchfeaaL15
import Derived.Test.YtgiofigjnchfeaaQ4
namespace Go.Proofs.Ytgiofigjnchfeaa.Q
open Go.RowKit Go.Proofs.YtgiofigjnchfeaaW.PrintWords Go.Proofs.YtgiofigjnchfeaaW.PrintLast Go.Proofs.YtgiofigjnchfeaaW.PrintMore
set_option linter.unusedVariables false
set_option linter.unusedSimpArgs false

/-! PoolFresh. -/
theorem ne_self (x : S29) : (!(x.f0 == x.f0) || (!(x.f1 == x.f1) || (!(x.f2 == x.f2) || (!(x.f3 == x.f3))))) = false := by simp
theorem Fresh_l0 (M : List Int) (L : List S29) (N : List Int) (K : List S29) (hL : L.length ≤ 4611686018427387904) (hK : K.Pairwise ltS) (hs : ∀ x ∈ L, x ∈ K) :
    ∀ (r i : Nat), i + r = L.length → Ev (fun k => interchangelaw13_PoolFresh.l0 k true i M L N K) true
  | 0, i, hi => Ev.succ (h := fun _ => some true) (fun k => by simp only [interchangelaw13_PoolFresh.l0]; rw [if_neg (by omega)]) (Ev.const _)
  | r + 1, i, hi => by
    have hil : i < L.length := by omega
    refine Ev.succ (fun k => ?_) (Fresh_l0 M L N K hL hK hs r (i + 1) (by omega))
    simp only [interchangelaw13_PoolFresh.l0]
    rw [if_pos (by omega), if_pos (by omega), rd29_nat hil, At_mem hK (hs _ (List.getElem_mem hil)), w64 (n := i) (N := L.length) hil hL]
    simp
theorem Fresh_core (M : List Int) (L : List S29) (who : Int) (hL : L.length ≤ 4611686018427387904) : ∃ k, interchangelaw13_PoolFresh.f k M L who = some true := by
  refine Ev.run (g := fun k => interchangelaw13_PoolFresh.f k M L who) (Ev.bind shown_ev ?_)
  obtain ⟨v, hv, hv2⟩ := few_ev M L hL
  refine Ev.bind hv ?_
  cases v with
  | false => exact Ev.pure (fun k => by simp)
  | true =>
    obtain ⟨hr, hl⟩ := hv2 rfl
    have hR := RightL.of hr
    have hM := hR.len
    simp only [if_true]
    have hsame := Same_ev M L (by omega) hL
    rcases Lease_cases hR (by omega) who with ⟨h1, h2⟩ | ⟨h1, h3, h2⟩ | ⟨h1, h3, h4, h2⟩ | ⟨h1, h3, b, hb, h4, h5, -, h2⟩
    · rw [h2]
      simp only [Option.bind_some, if_neg (show ¬ ((1 : Int) = 0) by decide)]
      exact Ev.bind hsame (Ev.pure (fun k => by simp))
    · rw [h2]
      simp only [Option.bind_some, if_neg (show ¬ ((14 : Int) = 0) by decide)]
      exact Ev.bind hsame (Ev.pure (fun k => by simp))
    · rw [h2]
      simp only [Option.bind_some, if_neg (show ¬ ((12 : Int) = 0) by decide)]
      exact Ev.bind hsame (Ev.pure (fun k => by simp))
    · have hRK := hR.lease hb h4 h1 h3
      obtain ⟨k1, k2, k3, -⟩ := ch_right hR b
      have hat : pool_At.f M L b (chL b L) = some (0, 0, 0, 0, false) := At_none k1
      have hof : pool_Of.f M (insL ⟨b, chL b L, 1, who⟩ L) who = some ((b : Int), chL b L, 1, who, true) := by
        unfold pool_Of.f
        rw [show L = L from rfl, find_of (x := ⟨b, chL b L, 1, who⟩) hRK.who ((mem_insL _ _ L).2 (.inl rfl)) (by show 0 < who; omega)]
      rw [h2]
      simp only [Option.bind_some, if_true, hat, hof]
      refine Ev.congr (h := fun k => interchangelaw13_PoolFresh.j0 k true false M L M (insL ⟨b, chL b L, 1, who⟩ L)) (fun k => ?_) ?_
      · rw [insL_length, w64 (n := L.length) (N := L.length + 1) (by omega) (by omega)]
        simp
      · refine Ev.succ (fun k => ?_) (Fresh_l0 M L M (insL ⟨b, chL b L, 1, who⟩ L) hL hRK.lt (fun x hx => (mem_insL _ x L).2 (.inr hx)) L.length 0 (by omega))
        simp only [interchangelaw13_PoolFresh.j0, Bool.false_eq_true, if_false]
        rfl
end Go.Proofs.Ytgiofigjnchfeaa.Q
