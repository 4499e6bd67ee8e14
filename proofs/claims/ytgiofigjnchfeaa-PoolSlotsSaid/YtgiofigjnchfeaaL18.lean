/- PoolSlots: the plain law. -/
import Derived.Test.YtgiofigjnchfeaaL15
import Derived.Test.YtgiofigjnchfeaaQ7
namespace Go.Proofs.Ytgiofigjnchfeaa.Q
open Go.RowKit Go.Proofs.YtgiofigjnchfeaaW.PrintWords Go.Proofs.YtgiofigjnchfeaaW.PrintLast Go.Proofs.YtgiofigjnchfeaaW.PrintMore
set_option linter.unusedVariables false
set_option linter.unusedSimpArgs false

def slotV : Option S29 → Int × Int × Int × Int × Bool
 | some s => (s.f0, s.f1, s.f2, s.f3, true)
 | none => (0, 0, 0, 0, false)
theorem At_eq (M : List Int) (L : List S29) (c ch : Int) : pool_At.f M L c ch = some (slotV (L.find? (atP c ch))) := by
 unfold pool_At.f; cases L.find? (atP c ch) <;> rfl
theorem Of_eq (M : List Int) (L : List S29) (who : Int) : pool_Of.f M L who = some (slotV (L.find? (ofP who))) := by
 unfold pool_Of.f; cases L.find? (ofP who) <;> rfl
theorem refAt_l0 (M : List Int) (L : List S29) (c ch : Int) (hL : L.length ≤ 4611686018427387904) : ∀ (r i : Nat), i + r = L.length → Ev (fun k => interchangeref13_At.l0 k c ch i M L) (slotV ((L.drop i).find? (atP c ch)))
 | 0, i, hi => by
  rw [List.drop_of_length_le (by omega)]
  exact Ev.succ (h := fun _ => some _) (fun k => by simp only [interchangeref13_At.l0]; rw [if_neg (by omega)]; rfl) (Ev.const _)
 | r + 1, i, hi => by
  have hil : i < L.length := by omega
  have hn := refAt_l0 M L c ch hL r (i + 1) (by omega)
  rw [List.drop_eq_getElem_cons hil]
  have hrd := rd29_nat hil
  generalize L[i] = x at hrd
  by_cases h0 : x.f0 = c
  ·
   by_cases h1 : x.f1 = ch
   ·
    rw [List.find?_cons_of_pos ((atP_iff _ _ _).2 ⟨h0, h1⟩)]
    refine Ev.succ (h := fun _ => some _) (fun k => ?_) (Ev.const _)
    simp only [interchangeref13_At.l0]
    rw [if_pos (by omega), if_pos (by omega), hrd, if_pos h0, if_pos h1]
    rfl
   ·
    rw [List.find?_cons_of_neg (by rw [atP_iff]; omega)]
    refine Ev.succ (fun k => ?_) hn
    simp only [interchangeref13_At.l0]
    rw [if_pos (by omega), if_pos (by omega), hrd, if_pos h0, if_neg h1, w64 hil hL]
  ·
   rw [List.find?_cons_of_neg (by rw [atP_iff]; omega)]
   refine Ev.succ (fun k => ?_) hn
   simp only [interchangeref13_At.l0]
   rw [if_pos (by omega), if_pos (by omega), hrd, if_neg h0, w64 hil hL]
theorem refAt_ev (M : List Int) (L : List S29) (c ch : Int) (hL : L.length ≤ 4611686018427387904) : Ev (fun k => interchangeref13_At.f k M L c ch) (slotV (L.find? (atP c ch))) :=
 Ev.congr (h := fun k => interchangeref13_At.l0 k c ch (0 : Nat) M L) (fun k => rfl) (by have := refAt_l0 M L c ch hL L.length 0 (by omega); rwa [List.drop_zero] at this)
theorem refOf_l0 (M : List Int) (L : List S29) (who : Int) (hL : L.length ≤ 4611686018427387904) : ∀ (r i : Nat), i + r = L.length → Ev (fun k => interchangeref13_Of.l0 k who i M L) (slotV ((L.drop i).find? (ofP who)))
 | 0, i, hi => by
  rw [List.drop_of_length_le (by omega)]
  exact Ev.succ (h := fun _ => some _) (fun k => by simp only [interchangeref13_Of.l0]; rw [if_neg (by omega)]; rfl) (Ev.const _)
 | r + 1, i, hi => by
  have hil : i < L.length := by omega
  have hn := refOf_l0 M L who hL r (i + 1) (by omega)
  rw [List.drop_eq_getElem_cons hil]
  have hrd := rd29_nat hil
  generalize L[i] = x at hrd
  by_cases h0 : who ≥ 1
  ·
   by_cases h1 : x.f3 = who
   ·
    rw [List.find?_cons_of_pos ((ofP_iff _ _).2 ⟨h1, by omega⟩)]
    refine Ev.succ (h := fun _ => some _) (fun k => ?_) (Ev.const _)
    simp only [interchangeref13_Of.l0]
    rw [if_pos (by omega), if_pos h0, if_pos (by omega), hrd, if_pos h1]
    rfl
   ·
    rw [List.find?_cons_of_neg (by rw [ofP_iff]; omega)]
    refine Ev.succ (fun k => ?_) hn
    simp only [interchangeref13_Of.l0]
    rw [if_pos (by omega), if_pos h0, if_pos (by omega), hrd, if_neg h1, w64 hil hL]
  ·
   rw [List.find?_cons_of_neg (by rw [ofP_iff]; omega)]
   refine Ev.succ (fun k => ?_) hn
   simp only [interchangeref13_Of.l0]
   rw [if_pos (by omega), if_neg h0, w64 hil hL]
theorem refOf_ev (M : List Int) (L : List S29) (who : Int) (hL : L.length ≤ 4611686018427387904) : Ev (fun k => interchangeref13_Of.f k M L who) (slotV (L.find? (ofP who))) :=
 Ev.congr (h := fun k => interchangeref13_Of.l0 k who (0 : Nat) M L) (fun k => rfl) (by have := refOf_l0 M L who hL L.length 0 (by omega); rwa [List.drop_zero] at this)

def putL (s : S29) : List S29 → List S29
 | [] => []
 | x :: r => if x.f0 = s.f0 ∧ x.f1 = s.f1 then (if s.f2 = 0 then putL s r else s :: putL s r) else x :: putL s r
theorem putL_length (s : S29) : ∀ L : List S29, (putL s L).length ≤ L.length
 | [] => by simp [putL]
 | x :: r => by
  have := putL_length s r
  simp only [putL]
  split
  ·
   split <;> simp <;> omega
  ·
   simp; omega
theorem put_l0 (M : List Int) (L : List S29) (s : S29) (hL : L.length ≤ 400) : ∀ (r i : Nat) (K : List S29), i + r = L.length → K.length ≤ i → Ev (fun k => interchangeref13_put.l0 k i M L s.f0 s.f1 s.f2 s.f3 M K) (M, K ++ putL s (L.drop i))
 | 0, i, K, hi, hK => by
  rw [List.drop_of_length_le (by omega)]
  exact Ev.succ (h := fun _ => some _) (fun k => by simp only [interchangeref13_put.l0]; rw [if_neg (by omega)]; simp [putL]) (Ev.const _)
 | r + 1, i, K, hi, hK => by
  have hil : i < L.length := by omega
  have hd := List.drop_eq_getElem_cons hil
  have hrd := rd29_nat hil
  have hw := w64 (n := i) (N := L.length) hil (by omega)
  have hi0 : (i : Int) < (L.length : Int) := by omega
  have hi1 : (0 : Int) ≤ (i : Int) := by omega
  rw [hd]
  generalize L[i] = x at hrd
  have keep : ¬ (x.f0 = s.f0 ∧ x.f1 = s.f1) → Ev (fun k => interchangeref13_put.j1 k i true M L s.f0 s.f1 s.f2 s.f3 M K) (M, K ++ putL s (x :: L.drop (i + 1))) := by
   intro hne
   have hn := put_l0 M L s hL r (i + 1) (K ++ [x]) (by omega) (by simp; omega)
   simp only [putL]
   rw [if_neg hne, show K ++ x :: putL s (L.drop (i + 1)) = K ++ [x] ++ putL s (L.drop (i + 1)) by simp]
   refine Ev.succ (fun k => ?_) hn
   simp only [interchangeref13_put.j1, if_true]
   rw [if_pos hi1, if_pos hi0, if_pos (by omega), hw, hrd]
  by_cases h0 : x.f0 = s.f0
  ·
   by_cases h1 : x.f1 = s.f1
   ·
    refine Ev.succ (h := fun k => interchangeref13_put.j1 k i false M L s.f0 s.f1 s.f2 s.f3 M K) (fun k => ?_) ?_
    ·
     simp only [interchangeref13_put.l0]
     rw [if_pos hi0, if_pos hi1, hrd, if_pos h0]
     simp [h1]
    ·
     have hpl : putL s (x :: L.drop (i + 1)) = if s.f2 = 0 then putL s (L.drop (i + 1)) else s :: putL s (L.drop (i + 1)) := by
      show (if x.f0 = s.f0 ∧ x.f1 = s.f1 then (if s.f2 = 0 then putL s (L.drop (i + 1)) else s :: putL s (L.drop (i + 1))) else x :: putL s (L.drop (i + 1))) = _
      rw [if_pos ⟨h0, h1⟩]
     rw [hpl]
     by_cases h2 : s.f2 = 0
     ·
      rw [if_pos h2]
      refine Ev.succ (fun k => ?_) (put_l0 M L s hL r (i + 1) K (by omega) (by omega))
      simp only [interchangeref13_put.j1, Bool.false_eq_true, if_false]
      rw [if_pos h2, hw]
     ·
      rw [if_neg h2, show K ++ s :: putL s (L.drop (i + 1)) = K ++ [s] ++ putL s (L.drop (i + 1)) by simp]
      refine Ev.succ (fun k => ?_) (put_l0 M L s hL r (i + 1) (K ++ [s]) (by omega) (by simp; omega))
      simp only [interchangeref13_put.j1, Bool.false_eq_true, if_false]
      rw [if_neg h2, if_pos (by omega), hw]
   ·
    refine Ev.succ (h := fun k => interchangeref13_put.j1 k i true M L s.f0 s.f1 s.f2 s.f3 M K) (fun k => ?_) (keep (by omega))
    simp only [interchangeref13_put.l0]
    rw [if_pos hi0, if_pos hi1, hrd, if_pos h0, show (x.f1 != s.f1) = true from bne_iff_ne.2 h1]
  ·
   refine Ev.succ (h := fun k => interchangeref13_put.j1 k i true M L s.f0 s.f1 s.f2 s.f3 M K) (fun k => ?_) (keep (by omega))
   simp only [interchangeref13_put.l0]
   rw [if_pos hi0, if_pos hi1, hrd, if_neg h0]
theorem put_ev (M : List Int) (L : List S29) (s : S29) (hL : L.length ≤ 400) : Ev (fun k => interchangeref13_put.f k M L s.f0 s.f1 s.f2 s.f3) (M, putL s L) :=
 Ev.congr (h := fun k => interchangeref13_put.l0 k (0 : Nat) M L s.f0 s.f1 s.f2 s.f3 M []) (fun k => rfl) (by have := put_l0 M L s hL L.length 0 [] (by omega) (by simp); simpa using this)
theorem putL_map (s x : S29) (h2 : s.f2 ≠ 0) (f : S29 → S29) (hf : f x = s) : ∀ L : List S29, (∀ y ∈ L, y.f0 = s.f0 → y.f1 = s.f1 → y = x) → putL s L = L.map (fun y => if atP s.f0 s.f1 y = true then f y else y)
 | [], _ => rfl
 | y :: r, h => by
  have ih := putL_map s x h2 f hf r (fun z hz => h z (List.mem_cons_of_mem _ hz))
  simp only [putL, List.map_cons]
  by_cases e : y.f0 = s.f0 ∧ y.f1 = s.f1
  ·
   rw [if_pos e, if_neg h2, if_pos ((atP_iff _ _ _).2 e), h y List.mem_cons_self e.1 e.2, hf, ih]
  ·
   rw [if_neg e, if_neg (by rw [atP_iff]; exact e), ih]
theorem putL_filter (s : S29) (h2 : s.f2 = 0) : ∀ L : List S29, putL s L = L.filter (fun y => !atP s.f0 s.f1 y)
 | [] => rfl
 | y :: r => by
  simp only [putL]
  by_cases e : y.f0 = s.f0 ∧ y.f1 = s.f1
  ·
   rw [if_pos e, if_pos h2, List.filter_cons_of_neg (by simp [(atP_iff _ _ _).2 e]), putL_filter s h2 r]
  ·
   have : atP s.f0 s.f1 y = false := by
    cases h : atP s.f0 s.f1 y with
    | false => rfl
    | true => exact absurd ((atP_iff _ _ _).1 h) e
   rw [if_neg e, List.filter_cons_of_pos (by simp [this]), putL_filter s h2 r]

/-- What is set: as the document has it. -/
theorem set_case {M : List Int} {L : List S29} (h : RightL M L) (c ch : Int) (ok : S29 → Bool) (upd : S29 → S29) : setF (atP c ch) ok upd M L =
  match L.find? (atP c ch) with
  | some x => if ok x = true then (M, L.map (fun y => if atP c ch y = true then upd y else y), 0) else (M, L, 11)
  | none => (M, L, 11) := by
 unfold setF
 cases hf : L.find? (atP c ch) with
 | none =>
  have hn : ∀ x ∈ L, atP c ch x = false := fun x hx => by simpa using List.find?_eq_none.1 hf x hx
  rw [setL_none _ _ _ _ hn]
 | some x =>
  simp only []
  cases ho : ok x with
  | false => rw [setL_none_of _ ok upd L x hf ho]; simp
  | true =>
   cases hs : setL (atP c ch) ok upd L with
   | none => have := setL_no _ ok upd L hs x hf; rw [this] at ho; cases ho
   | some L1 =>
    obtain ⟨e1, -⟩ := setL_map _ _ _ L L1 hs (at_unique h.lt c ch) (sorted_nodup h.lt)
    simp [e1]
theorem Opened_same {M : List Int} {L : List S29} (h : RightL M L) (hL : L.length ≤ 200) (c ch : Int) : ∃ v, pool_Opened.f M L c ch = some v ∧ Ev (fun k => interchangeref13_Opened.f k M L c ch) v ∧ v.1 = M ∧ v.2.1.length ≤ 200 := by
 refine ⟨setF (atP c ch) (fun x => ([1] : List Int).any fun y => x.f2 == y) opnS M L, by unfold pool_Opened.f; rw [if_pos (by omega)], ?_, ?_⟩
 ·
  rw [set_case h]
  refine Ev.bind (refAt_ev M L c ch (by omega)) ?_
  cases hf : L.find? (atP c ch) with
  | none => exact Ev.pure (fun k => by simp [slotV])
  | some x =>
   have hx := List.mem_of_find?_eq_some hf
   have hk := (atP_iff _ _ _).1 (List.find?_some hf)
   simp only [slotV, if_true]
   by_cases h2 : x.f2 = 1
   ·
    have hp := put_ev M L (opnS x) (by omega)
    rw [putL_map (opnS x) x (by simp [opnS]) opnS rfl L (fun y hy e0 e1 => key_inj h.lt hy hx e0 e1)] at hp
    simp only [h2, if_true]
    refine Ev.bind (a := (M, L.map (fun y => if atP c ch y = true then opnS y else y))) ?_ (Ev.pure (fun k => by simp))
    rw [show (opnS x).f0 = c from hk.1, show (opnS x).f1 = ch from hk.2] at hp
    rw [hk.1, hk.2]
    exact hp
   ·
    exact Ev.pure (fun k => by simp [h2])
 ·
  rw [set_case h]
  split
  ·
   split
   ·
    exact ⟨rfl, by simpa using hL⟩
   ·
    exact ⟨rfl, hL⟩
  ·
   exact ⟨rfl, hL⟩
theorem Release_same {M : List Int} {L : List S29} (h : RightL M L) (hL : L.length ≤ 200) (c ch : Int) : ∃ v, pool_Release.f M L c ch = some v ∧ Ev (fun k => interchangeref13_Release.f k M L c ch) v ∧ v.1 = M ∧ v.2.1.length ≤ 200 := by
 refine ⟨setF (atP c ch) relOk relS M L, Release_eq M L c ch (by omega), ?_, ?_⟩
 ·
  rw [set_case h]
  refine Ev.bind (refAt_ev M L c ch (by omega)) ?_
  cases hf : L.find? (atP c ch) with
  | none => exact Ev.pure (fun k => by simp [slotV])
  | some x =>
   have hx := List.mem_of_find?_eq_some hf
   have hk := (atP_iff _ _ _).1 (List.find?_some hf)
   have hs := h.ok x hx
   simp only [slotV, if_true]
   by_cases h2 : x.f2 = 3
   ·
    have ho : relOk x = false := by simp [relOk, h2]
    exact Ev.pure (fun k => by simp [h2, ho])
   ·
    have ho : relOk x = true := by
     have a := hs.2.2.2.2.1
     have b := hs.2.2.2.2.2.1
     simp only [relOk, List.any_cons, List.any_nil, Bool.or_false, Bool.or_eq_true, beq_iff_eq]
     omega
    have hp := put_ev M L (relS x) (by omega)
    rw [putL_map (relS x) x (by simp [relS]) relS rfl L (fun y hy e0 e1 => key_inj h.lt hy hx e0 e1)] at hp
    simp only [h2, ho, if_true, if_false]
    refine Ev.bind (a := (M, L.map (fun y => if atP c ch y = true then relS y else y))) ?_ (Ev.pure (fun k => by simp))
    rw [show (relS x).f0 = c from hk.1, show (relS x).f1 = ch from hk.2] at hp
    rw [hk.1, hk.2]
    exact hp
 ·
  rw [set_case h]
  split
  ·
   split
   ·
    exact ⟨rfl, by simpa using hL⟩
   ·
    exact ⟨rfl, hL⟩
  ·
   exact ⟨rfl, hL⟩
theorem Clean_same {M : List Int} {L : List S29} (h : RightL M L) (hL : L.length ≤ 200) (c ch : Int) : ∃ v, pool_Clean.f M L c ch = some v ∧ Ev (fun k => interchangeref13_Clean.f k M L c ch) v ∧ v.1 = M ∧ v.2.1.length ≤ 200 := by
 have hfl : (L.filter fun x => !clP c ch x).length ≤ L.length := List.length_filter_le _ _
 cases hf : L.find? (atP c ch) with
 | none =>
  have hn : ∀ x ∈ L, atP c ch x = false := fun x hx => by simpa using List.find?_eq_none.1 hf x hx
  have hz : (L.filter (clP c ch)).length = 0 := by
   rw [List.length_eq_zero_iff, List.filter_eq_nil_iff]
   intro x hx hc
   have := hn x hx
   simp only [clP, Bool.and_eq_true] at hc
   simp only [atP] at this
   rw [show (x.f0 == c && x.f1 == ch) = true by simp [hc.1.1, hc.1.2]] at this
   cases this
  refine ⟨(M, L, 11), by unfold pool_Clean.f; rw [if_pos (by omega), if_pos hz], ?_, rfl, hL⟩
  refine Ev.bind (refAt_ev M L c ch (by omega)) ?_
  rw [hf]
  exact Ev.pure (fun k => by simp [slotV])
 | some x =>
  have hx := List.mem_of_find?_eq_some hf
  have hk := (atP_iff _ _ _).1 (List.find?_some hf)
  by_cases h2 : x.f2 = 3
  ·
   have hcl : clP c ch x = true := by simp [clP, hk.1, hk.2, h2]
   have hone : (L.filter (clP c ch)).length = 1 := filter_one h.lt hx _ hcl (fun y hy hpy => by
    simp only [clP, Bool.and_eq_true, beq_iff_eq] at hpy
    exact key_inj h.lt hy hx (by omega) (by omega))
   have heq : L.filter (fun y => !clP c ch y) = L.filter (fun y => !atP c ch y) := by
    refine List.filter_congr (fun y hy => ?_)
    cases hpy : atP c ch y with
    | true =>
     have := (atP_iff _ _ _).1 hpy
     have e := key_inj h.lt hy hx (by omega) (by omega)
     subst e
     simp [hcl]
    | false =>
     have : clP c ch y = false := by
      cases hcy : clP c ch y with
      | false => rfl
      | true =>
       simp only [clP, Bool.and_eq_true, beq_iff_eq] at hcy
       rw [(atP_iff _ _ _).2 hcy.1] at hpy
       cases hpy
     simp [this]
   refine ⟨(M, L.filter (fun y => !clP c ch y), 0), by unfold pool_Clean.f; rw [if_pos (by omega), if_neg (by omega)], ?_, rfl, by show (L.filter fun x => !clP c ch x).length ≤ 200; omega⟩
   refine Ev.bind (refAt_ev M L c ch (by omega)) ?_
   rw [hf]
   simp only [slotV, if_true, h2]
   have hp := put_ev M L ⟨x.f0, x.f1, 0, x.f3⟩ (by omega)
   rw [putL_filter _ rfl, show (⟨x.f0, x.f1, 0, x.f3⟩ : S29).f0 = c from hk.1, show (⟨x.f0, x.f1, 0, x.f3⟩ : S29).f1 = ch from hk.2] at hp
   refine Ev.bind (a := (M, L.filter (fun y => !clP c ch y))) ?_ (Ev.pure (fun k => by simp))
   rw [heq, hk.1, hk.2]
   exact hp
  ·
   have hz : (L.filter (clP c ch)).length = 0 := by
    rw [List.length_eq_zero_iff, List.filter_eq_nil_iff]
    intro y hy hc
    simp only [clP, Bool.and_eq_true, beq_iff_eq] at hc
    have e := key_inj h.lt hy hx (by omega) (by omega)
    subst e
    exact h2 hc.2
   refine ⟨(M, L, 11), by unfold pool_Clean.f; rw [if_pos (by omega), if_pos hz], ?_, rfl, hL⟩
   refine Ev.bind (refAt_ev M L c ch (by omega)) ?_
   rw [hf]
   exact Ev.pure (fun k => by simp [slotV, h2])
theorem Slots_core (M : List Int) (L : List S29) (c ch who : Int) (hL : L.length ≤ 4611686018427387904) : ∃ k, interchangelaw13_PoolSlots.f k M L c ch who = some true := by
 refine Ev.run (g := fun k => interchangelaw13_PoolSlots.f k M L c ch who) (Ev.bind shown_ev ?_)
 obtain ⟨v, hv, hv2⟩ := few_ev M L hL
 refine Ev.bind hv ?_
 cases v with
 | false => exact Ev.pure (fun k => by simp)
 | true =>
  obtain ⟨hr, hl⟩ := hv2 rfl
  have hR := RightL.of hr
  have hM := hR.len
  simp only [if_true]
  obtain ⟨v1, o1, o2, o3, o4⟩ := Opened_same hR hl c ch
  obtain ⟨v2, p1, p2, p3, p4⟩ := Release_same hR hl c ch
  obtain ⟨v3, q1, q2, q3, q4⟩ := Clean_same hR hl c ch
  rw [o1, p1, q1, At_eq, Of_eq]
  simp only [Option.bind_some]
  refine Ev.bind o2 (Ev.bind p2 (Ev.bind q2 (Ev.bind (refAt_ev M L c ch hL) (Ev.bind (refOf_ev M L who hL) ?_))))
  refine Ev.bind (Same_ev v1.1 v1.2.1 (by rw [o3]; omega) (by omega)) ?_
  simp only [if_true]
  refine Ev.bind (Same_ev v2.1 v2.2.1 (by rw [p3]; omega) (by omega)) ?_
  simp only [if_true]
  refine Ev.bind (Same_ev v3.1 v3.2.1 (by rw [q3]; omega) (by omega)) ?_
  exact Ev.pure (fun k => by simp)
end Go.Proofs.Ytgiofigjnchfeaa.Q
