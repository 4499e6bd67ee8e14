/- PoolDowns: the plain law. -/
import Derived.Test.YtgiofigjnchfeaaL15
import Derived.Test.YtgiofigjnchfeaaQ5
namespace Go.Proofs.Ytgiofigjnchfeaa.Q
open Go.RowKit Go.Proofs.YtgiofigjnchfeaaW.PrintWords Go.Proofs.YtgiofigjnchfeaaW.PrintLast Go.Proofs.YtgiofigjnchfeaaW.PrintMore
set_option linter.unusedVariables false
set_option linter.unusedSimpArgs false

/-! PoolDowns. -/
def ocN (c : Int) (L : List S29) : Nat := L.countP fun x => dnP c x && x.f3 != 0
theorem ocN_out (c : Int) : ∀ L : List S29, (((L.filter (dnP c)).map (·.f3)).filter (fun y => y != 0)).length = ocN c L
  | [] => rfl
  | x :: r => by
    have ih := ocN_out c r
    unfold ocN at *
    rw [List.countP_cons, ← ih]
    cases h : dnP c x with
    | false => simp [h]
    | true =>
      cases h2 : (x.f3 != 0) with
      | false => simp [h, h2]
      | true => simp [h, h2]
theorem RightL.down {M : List Int} {L : List S29} (h : RightL M L) {c : Int} (h0 : 0 ≤ c) (h1 : c < (M.length : Int)) : RightL (M.set c.toNat 0) (L.filter fun x => !dnP c x) := by
  have hs : (L.filter fun x => !dnP c x).Sublist L := List.filter_sublist
  refine ⟨by simpa using h.len, fun i hi => ?_, fun s hs' => ?_, h.lt.sublist hs, h.who.sublist hs⟩
  · rw [List.length_set] at hi
    by_cases e : c = (i : Int)
    · rw [← e, rd_set_self _ _ _ h0 h1]; omega
    · rw [rd_set_ne _ _ _ _ h0 (by omega) e]; exact h.most i hi
  · obtain ⟨hm, hp⟩ := List.mem_filter.1 hs'
    obtain ⟨a0, a1, a2, a3, a4⟩ := h.ok s hm
    have hne : c ≠ s.f0 := by
      intro e
      simp [dnP, e] at hp
    exact ⟨a0, by rw [List.length_set]; exact a1, a2, by rw [rd_set_ne _ _ _ _ h0 a0 hne]; exact a3, a4⟩
theorem Downs_l0 (M : List Int) (L : List S29) (who c : Int) (hR : RightL M L) (hL : L.length ≤ 200) (h0 : 0 ≤ c) (h1 : c < (M.length : Int)) (out : List Int) :
    ∀ (r i n : Nat), i + r = L.length → n ≤ i → n + ocN c (L.drop i) = out.length → Ev (fun k => interchangelaw13_PoolDowns.l0 k c who true out n i M L (M.set c.toNat 0) (L.filter fun x => !dnP c x)) true
  | 0, i, n, hi, hn, ho => by
    have hR2 := hR.down h0 h1
    have hlen : (L.filter fun x => !dnP c x).length ≤ L.length := List.length_filter_le _ _
    rw [List.drop_of_length_le (by omega)] at ho
    have ho2 : (out.length : Int) = (n : Int) := by simp [ocN] at ho; omega
    refine Ev.succ (h := fun _ => some true) (fun k => ?_) (Ev.const _)
    simp only [interchangelaw13_PoolDowns.l0]
    rw [if_neg (by omega)]
    have hz : rd (M.set c.toNat 0) c = 0 := rd_set_self _ _ _ h0 h1
    rcases Lease_cases hR2 (by omega) who with ⟨-, h2⟩ | ⟨-, -, h2⟩ | ⟨-, -, -, h2⟩ | ⟨-, -, b, hb, h4, -, -, h2⟩
    · rw [h2]; simp [ho2, h0, h1, hz]
    · rw [h2]; simp [ho2, h0, h1, hz]
    · rw [h2]; simp [ho2, h0, h1, hz]
    · rw [h2]
      have hne : ¬ (b : Int) = c := by
        intro e
        rw [e, hz] at h4
        omega
      simp [ho2, h0, h1, hz, hne]
  | r + 1, i, n, hi, hn, ho => by
    have hil : i < L.length := by omega
    have hd : L.drop i = L[i] :: L.drop (i + 1) := List.drop_eq_getElem_cons hil
    rw [hd] at ho
    have hi0 : (i : Int) < (L.length : Int) := by omega
    have hi1 : (0 : Int) ≤ (i : Int) := by omega
    have hw := w64 (n := i) (N := L.length) hil (by omega)
    have hw2 := w64 (n := n) (N := L.length) (by omega) (by omega)
    have hR2 := hR.down h0 h1
    have hrd := rd29_nat hil
    have hmem : L[i] ∈ L := List.getElem_mem hil
    generalize L[i] = x at ho hrd hmem
    unfold ocN at ho
    rw [List.countP_cons] at ho
    by_cases hx : x.f0 = c
    · have hat : pool_At.f (M.set c.toNat 0) (L.filter fun x => !dnP c x) x.f0 x.f1 = some (0, 0, 0, 0, false) := At_none (fun s hs e => by
        obtain ⟨hm, hp⟩ := List.mem_filter.1 hs
        simp [dnP, e, hx] at hp)
      by_cases h3 : x.f3 = 0
      · have hnext := Downs_l0 M L who c hR hL h0 h1 out r (i + 1) n (by omega) (by omega) (by unfold ocN; simp [dnP, hx, h3] at ho; simp [dnP]; exact ho)
        refine Ev.succ (h := fun k => interchangelaw13_PoolDowns.j2 k c who true out n i false M L (M.set c.toNat 0) (L.filter fun x => !dnP c x)) (fun k => ?_) (Ev.succ (fun k => ?_) hnext)
        · simp only [interchangelaw13_PoolDowns.l0]
          rw [if_pos hi0, if_pos hi1, hrd, hat]
          simp [hx]
        · simp only [interchangelaw13_PoolDowns.j2, Bool.false_eq_true, if_false]
          rw [if_pos hi1, if_pos hi0, hrd, if_pos hx, if_pos h3, hw]
      · have hnext := Downs_l0 M L who c hR hL h0 h1 out r (i + 1) (n + 1) (by omega) (by omega) (by unfold ocN; simp [dnP, hx, h3] at ho; simp [dnP]; omega)
        refine Ev.succ (h := fun k => interchangelaw13_PoolDowns.j2 k c who true out n i false M L (M.set c.toNat 0) (L.filter fun x => !dnP c x)) (fun k => ?_) (Ev.succ (fun k => ?_) hnext)
        · simp only [interchangelaw13_PoolDowns.l0]
          rw [if_pos hi0, if_pos hi1, hrd, hat]
          simp [hx]
        · simp only [interchangelaw13_PoolDowns.j2, Bool.false_eq_true, if_false]
          rw [if_pos hi1, if_pos hi0, hrd, if_pos hx, if_neg h3, hw, hw2]
    · have hin : x ∈ L.filter fun x => !dnP c x := List.mem_filter.2 ⟨hmem, by simp [dnP, hx]⟩
      have hat : pool_At.f (M.set c.toNat 0) (L.filter fun x => !dnP c x) x.f0 x.f1 = some (x.f0, x.f1, x.f2, x.f3, true) := At_mem hR2.lt hin
      have hnext := Downs_l0 M L who c hR hL h0 h1 out r (i + 1) n (by omega) (by omega) (by unfold ocN; simp [dnP, hx] at ho; simp [dnP]; exact ho)
      refine Ev.succ (h := fun k => interchangelaw13_PoolDowns.j2 k c who true out n i false M L (M.set c.toNat 0) (L.filter fun x => !dnP c x)) (fun k => ?_) (Ev.succ (fun k => ?_) hnext)
      · simp only [interchangelaw13_PoolDowns.l0]
        rw [if_pos hi0, if_pos hi1, hrd, hat]
        simp [hx]
      · simp only [interchangelaw13_PoolDowns.j2, Bool.false_eq_true, if_false]
        rw [if_pos hi1, if_pos hi0, hrd, if_neg hx, hw]
theorem Downs_core (M : List Int) (L : List S29) (c who : Int) (hL : L.length ≤ 4611686018427387904) : ∃ k, interchangelaw13_PoolDowns.f k M L c who = some true := by
  refine Ev.run (g := fun k => interchangelaw13_PoolDowns.f k M L c who) (Ev.bind shown_ev ?_)
  obtain ⟨v, hv, hv2⟩ := few_ev M L hL
  refine Ev.bind hv ?_
  have hj : Ev (fun k => interchangelaw13_PoolDowns.j0 k c who true true M L) true := Ev.succ (h := fun _ => some true) (fun k => by simp [interchangelaw13_PoolDowns.j0]) (Ev.const _)
  cases v with
  | false => simpa using hj
  | true =>
    obtain ⟨hr, hl⟩ := hv2 rfl
    have hR := RightL.of hr
    have hM := hR.len
    simp only [if_true]
    by_cases h0 : c < 0
    · simpa [h0] using hj
    · by_cases h1 : c ≥ (M.length : Int)
      · simpa [h0, h1] using hj
      · have hdn : pool_Down.f M L c = some (M.set c.toNat 0, L.filter (fun x => !dnP c x), ((L.filter (dnP c)).map (·.f3)).filter (fun y => y != 0)) := by
          unfold pool_Down.f
          rw [if_neg h0, if_neg (by omega), if_pos (by omega), if_pos (by omega)]
        have hnext := Downs_l0 M L who c hR hl (by omega) (by omega) (((L.filter (dnP c)).map (·.f3)).filter (fun y => y != 0)) L.length 0 0 (by omega) (by omega) (by rw [ocN_out]; simp)
        rw [show (fun k => if c < 0 then interchangelaw13_PoolDowns.j0 k c who true true M L else interchangelaw13_PoolDowns.j0 k c who true (decide (c ≥ (M.length : Int))) M L) = fun k => interchangelaw13_PoolDowns.j0 k c who true false M L from funext fun k => by rw [if_neg h0, decide_eq_false h1]]
        refine Ev.succ (fun k => ?_) hnext
        simp only [interchangelaw13_PoolDowns.j0, Bool.false_eq_true, if_false]
        rw [hdn]
        rfl

end Go.Proofs.Ytgiofigjnchfeaa.Q
