/- PoolScrub: the plain law. -/
import Derived.Test.YtgiofigjnchfeaaL15
import Derived.Test.YtgiofigjnchfeaaQ6
namespace Go.Proofs.Ytgiofigjnchfeaa.Q
open Go.RowKit Go.Proofs.YtgiofigjnchfeaaW.PrintWords Go.Proofs.YtgiofigjnchfeaaW.PrintLast Go.Proofs.YtgiofigjnchfeaaW.PrintMore
set_option linter.unusedVariables false
set_option linter.unusedSimpArgs false

theorem Scrub_core (M : List Int) (L : List S29) (c ch who : Int) (hL : L.length ≤ 4611686018427387904) : ∃ k, interchangelaw13_PoolScrub.f k M L c ch who = some true := by
  refine Ev.run (g := fun k => interchangelaw13_PoolScrub.f k M L c ch who) (Ev.bind shown_ev ?_)
  obtain ⟨v, hv, hv2⟩ := few_ev M L hL
  refine Ev.bind hv ?_
  cases v with
  | false => exact Ev.pure (fun k => by simp)
  | true =>
    obtain ⟨hr, hl⟩ := hv2 rfl
    have hR := RightL.of hr
    have hM := hR.len
    simp only [if_true]
    rw [Release_eq M L c ch (by omega)]
    cases hset : setL (atP c ch) relOk relS L with
    | none =>
      have : setF (atP c ch) relOk relS M L = (M, L, 11) := by unfold setF; rw [hset]
      rw [this]
      simp only [Option.bind_some, if_neg (show ¬ ((11 : Int) = 0) by decide)]
      exact Ev.bind (Same_ev M L (by omega) hL) (Ev.pure (fun k => rfl))
    | some L1 =>
      have hsf : setF (atP c ch) relOk relS M L = (M, L1, 0) := by unfold setF; rw [hset]
      obtain ⟨e1, x, hx, hp, ho⟩ := setL_map _ _ _ L L1 hset (at_unique hR.lt c ch) (sorted_nodup hR.lt)
      have hxk := (atP_iff _ _ _).1 hp
      have hR1 : RightL M L1 := by
        rw [e1]
        refine hR.upd _ relS (fun _ => rfl) (fun _ => rfl) (fun y hy _ => ?_) (fun _ => .inr rfl)
        obtain ⟨a0, a1, a2, a3, -⟩ := hR.ok y hy
        exact ⟨a0, a1, a2, a3, by simp [relS], by simp [relS], by simp [relS], by simp [relS]⟩
      have hx1 : relS x ∈ L1 := by
        rw [e1]
        exact List.mem_map.2 ⟨x, hx, by rw [if_pos hp]⟩
      have hlen1 : L1.length = L.length := by rw [e1]; simp
      have hk0 : (relS x).f0 = c := hxk.1
      have hk1 : (relS x).f1 = ch := hxk.2
      have hat : pool_At.f M L1 c ch = some (c, ch, 3, 0, true) := by
        have := At_mem (M := M) hR1.lt hx1
        rw [hk0, hk1] at this
        exact this
      have hcl : clP c ch (relS x) = true := by simp [clP, relS, hxk.1, hxk.2]
      have hone : (L1.filter (clP c ch)).length = 1 := filter_one hR1.lt hx1 _ hcl (fun y hy hpy => by
        simp only [clP, Bool.and_eq_true, beq_iff_eq] at hpy
        exact key_inj hR1.lt hy hx1 (by omega) (by omega))
      have hclean : pool_Clean.f M L1 c ch = some (M, L1.filter (fun x => !clP c ch x), 0) := by
        unfold pool_Clean.f
        rw [if_pos (by omega), if_neg (by omega)]
      have hat2 : pool_At.f M (L1.filter fun x => !clP c ch x) c ch = some (0, 0, 0, 0, false) := At_none (fun s hs e0 e2 => by
        obtain ⟨hm, hpn⟩ := List.mem_filter.1 hs
        have e3 := key_inj hR1.lt hm hx1 (by omega) (by omega)
        subst e3
        rw [hcl] at hpn
        cases hpn)
      have hlenF : ((L1.filter fun x => !clP c ch x).length : Int) = (L1.length : Int) - 1 := by
        have := len_filter (clP c ch) L1
        omega
      have hwl : wrap64 ((L1.length : Int) - 1) = (L1.length : Int) - 1 := by unfold wrap64; omega
      have hag : ∀ K : List S29, RightL M K → K.length ≤ 4398046511000 → relS x ∈ K → pool_Release.f M K c ch = some (M, K, 11) := by
        intro K hK hKl hxK
        have := Release_again hK hKl hxK rfl
        rw [hk0, hk1] at this
        exact this
      rw [hsf]
      simp only [Option.bind_some, if_true, hat, hclean, hat2]
      rcases Lease_cases hR1 (by omega) who with ⟨-, h2⟩ | ⟨-, -, h2⟩ | ⟨-, -, -, h2⟩ | ⟨h1, h3, b, hb, h4, -, -, h2⟩
      · rw [h2]
        simp only [Option.bind_some]
        exact Ev.pure (fun k => by simp [hag L1 hR1 (by omega) hx1, hlenF, hwl])
      · rw [h2]
        simp only [Option.bind_some]
        exact Ev.pure (fun k => by simp [hag L1 hR1 (by omega) hx1, hlenF, hwl])
      · rw [h2]
        simp only [Option.bind_some]
        exact Ev.pure (fun k => by simp [hag L1 hR1 (by omega) hx1, hlenF, hwl])
      · rw [h2]
        have hRK := hR1.lease hb h4 h1 h3
        have hKl : (insL ⟨b, chL b L1, 1, who⟩ L1).length ≤ 4398046511000 := by rw [insL_length]; omega
        have hrel := hag _ hRK hKl ((mem_insL _ _ L1).2 (.inr hx1))
        obtain ⟨k1, -, -, -⟩ := ch_right hR1 b
        simp only [Option.bind_some]
        by_cases hc : (b : Int) = c
        · have hch : ¬ chL b L1 = ch := by
            intro e
            exact k1 _ hx1 (by omega) (by omega)
          subst hc
          exact Ev.pure (fun k => by simp [hrel, hlenF, hwl, hch])
        · exact Ev.pure (fun k => by simp [hrel, hlenF, hwl, hc])
end Go.Proofs.Ytgiofigjnchfeaa.Q
