/- The plain law of NamesStay. -/
import Derived.Test.YtobdcmgdodahgaaDoorL18
import Derived.Test.YtobdcmgdodahgaaDoorH9
import Derived.Test.YtobdcmgdodahgaaDoorQ3
namespace Go.Proofs.YtobdcmgdodahgaaDoor.Pure
open Go.RowKit Go.Proofs.YtobdcmgdodahgaaDoor.Q Go.Proofs.YtobdcmgdodahgaaDoorW.PrintWords Go.Proofs.YtobdcmgdodahgaaDoorW.PrintLast Go.Proofs.YtobdcmgdodahgaaDoorW.PrintMore
set_option linter.unusedVariables false
set_option linter.unusedSimpArgs false

theorem find_drop {o m : ByteArray} (l : List S31) (h : o ≠ m) : findR (mineP o) (dropL m l) = findR (mineP o) l := by
  unfold findR dropL
  have e : (l.filter fun x => !mineP m x).find? (mineP o) = l.find? (mineP o) := by
    induction l with
    | nil => rfl
    | cons x l ih =>
      by_cases hx : mineP m x = true
      · have hn : mineP o x = false := by
          cases hq : mineP o x with
          | true => exact absurd ((mineP_iff.1 hq).symm.trans (mineP_iff.1 hx)) h
          | false => rfl
        rw [List.filter_cons_of_neg (by rw [hx]; decide), ih, List.find?_cons_of_neg (by rw [hn]; decide)]
      · have hx' : mineP m x = false := Bool.eq_false_iff.2 hx
        rw [List.filter_cons_of_pos (by rw [hx']; decide)]
        by_cases ho : mineP o x = true
        · rw [List.find?_cons_of_pos ho, List.find?_cons_of_pos ho]
        · rw [List.find?_cons_of_neg ho, List.find?_cons_of_neg ho, ih]
  rw [e]
theorem find_gone (m : ByteArray) (l : List S31) : findR (mineP m) (dropL m l) = (z31, false) :=
  findR_none fun y hy => by
    cases hq : mineP m y with
    | true => exact absurd (mineP_iff.1 hq) (mem_drop.1 hy).2
    | false => rfl
theorem find_add {o : ByteArray} (l : List S31) (x : S31) (h : o ≠ x.f0) : findR (mineP o) (l ++ [x]) = findR (mineP o) l := by
  unfold findR
  rw [List.find?_append]
  have e : [x].find? (mineP o) = none := by
    rw [List.find?_cons_of_neg (fun hq => h (mineP_iff.1 hq).symm)]
    rfl
  rw [e, Option.or_none]
theorem same3 (a : S31 × Bool) : (if (a.1.f0.toList == a.1.f0.toList && (a.1.f1.toList == a.1.f1.toList && (a.1.f2 == a.1.f2))) = true then some (a.2 == a.2) else some false) = some true := by simp
/-- What is asked of who was dropped. -/
theorem tailD (o m : ByteArray) (l : List S31) : (if o.toList = m.toList then some true else (if ((findR (mineP o) l).1.f0.toList == (findR (mineP o) (dropL m l)).1.f0.toList && ((findR (mineP o) l).1.f1.toList == (findR (mineP o) (dropL m l)).1.f1.toList && ((findR (mineP o) l).1.f2 == (findR (mineP o) (dropL m l)).1.f2))) = true then some ((findR (mineP o) l).2 == (findR (mineP o) (dropL m l)).2) else some false)) = some true := by
  by_cases h : o.toList = m.toList
  · rw [if_pos h]
  · rw [if_neg h, find_drop l (fun e => h (tl_inj.2 e))]
    exact same3 _
theorem Stay_j1_no (who made : Int) (l : List S31) (m o up : ByteArray) (fr fr2 : Bool) (e : Int) (he : e ≠ 0) (mm : ByteArray) : Evt (fun k => interchangelaw17_NamesStay.j1 k m fr o true e false who made l who made l mm up fr2 who made (dropL m l)) true := by
  refine Evt.succ (h := fun _ => some true) (fun k => ?_) (Evt.const _)
  simp only [interchangelaw17_NamesStay.j1]
  unfold names_To.f
  rw [if_neg (by decide), Option.bind_some, Option.bind_some, Option.bind_some, if_neg he, if_pos trivial]
  exact tailD o m l
theorem Stay_j1_ok (who made made' : Int) (l : List S31) (m o mm : ByteArray) (fr : Bool) (hr : RL who (l ++ [⟨mm, upS who mm, fr⟩])) (hm : m.toList ≠ [] → mm = m) : Evt (fun k => interchangelaw17_NamesStay.j1 k m fr o true 0 false who made l who made' (l ++ [⟨mm, upS who mm, fr⟩]) mm (upS who mm) fr who made (dropL m l)) true := by
  refine Evt.succ (h := fun _ => some true) (fun k => ?_) (Evt.const _)
  simp only [interchangelaw17_NamesStay.j1]
  have hx : (⟨mm, upS who mm, fr⟩ : S31) ∈ l ++ [⟨mm, upS who mm, fr⟩] := by simp
  have e1 : findR (mineP mm) (l ++ [⟨mm, upS who mm, fr⟩]) = (⟨mm, upS who mm, fr⟩, true) := hr.mine hx
  have e2 : findR (upP (upS who mm)) (l ++ [⟨mm, upS who mm, fr⟩]) = (⟨mm, upS who mm, fr⟩, true) := hr.up hx
  unfold names_To.f names_From.f
  rw [if_neg (by decide), Option.bind_some, Option.bind_some, Option.bind_some, if_pos trivial, Option.bind_some, Option.bind_some, e1, e2]
  dsimp only
  rw [if_pos trivial, if_pos rfl, if_pos rfl, if_pos (by simp), if_pos (by simp), if_pos (by simp)]
  have hmid : ∀ (X : Option Bool), X = some true → (if o.toList = mm.toList then X else (if ((findR (mineP o) l).1.f0.toList == (findR (mineP o) (l ++ [⟨mm, upS who mm, fr⟩])).1.f0.toList && ((findR (mineP o) l).1.f1.toList == (findR (mineP o) (l ++ [⟨mm, upS who mm, fr⟩])).1.f1.toList && ((findR (mineP o) l).1.f2 == (findR (mineP o) (l ++ [⟨mm, upS who mm, fr⟩])).1.f2))) = true then (if ((findR (mineP o) l).2 == (findR (mineP o) (l ++ [⟨mm, upS who mm, fr⟩])).2) = true then X else some false) else some false)) = some true := by
    intro X hX
    by_cases h : o.toList = mm.toList
    · rw [if_pos h, hX]
    · rw [if_neg h, find_add l ⟨mm, upS who mm, fr⟩ (fun e => h (tl_inj.2 e)), if_pos (by simp), if_pos (by simp), hX]
  by_cases hn : m.toList = []
  · rw [if_pos hn]
    exact hmid _ (tailD o m l)
  · rw [if_neg hn, if_pos (by rw [hm hn])]
    exact hmid _ (tailD o m l)
theorem NamesStay (a0_0 : Int) (w0 : (Lit.int .i64 a0_0).wf = true) (a0_1 : Int) (w1 : (Lit.int .u64 a0_1).wf = true) (l : List S31) (hb : l.length * 40 ≤ 140737488351232) (hx : ∀ x ∈ l, x.f0.size ≤ 140737488351232 ∧ x.f1.size ≤ 140737488351232 ∧ True) (m : ByteArray) (w2 : m.size ≤ 140737488351232) (fr : Bool) (most : Int) (w3 : (Lit.int .i64 most).wf = true) (o : ByteArray) (w4 : o.size ≤ 140737488351232) :
    ∃ k, interchangelaw17_NamesStay.f k a0_0 a0_1 l m fr most o = some true := by
  have h0 := i64_wf w0
  have h1 := u64_wf w1
  obtain ⟨v, hv, hv2⟩ := Right_ev a0_0 a0_1 l h0.2 ⟨by omega, fun x h => (hx x h).1⟩
  obtain ⟨K, hK⟩ := hv
  replace hK : ∀ k, K ≤ k → interchangeref17_Right.f k a0_0 a0_1 l = some v := hK
  cases v with
  | false =>
    refine ⟨K, ?_⟩
    unfold interchangelaw17_NamesStay.f
    rw [interchangelaw17_shown_true, Option.bind_some, hK K (Nat.le_refl _), Option.bind_some, if_neg (by decide)]
  | true =>
    have hr := (RL_iff _ _).1 (hv2.1 rfl)
    have hrd := hr.drop m
    have hdl := drop_len m l
    have hdx : ∀ x ∈ dropL m l, x.f0.size ≤ 140737488351232 := fun x h => (hx x (mem_drop.1 h).1).1
    obtain ⟨K2, hK2⟩ := Right_true (made := a0_1) h0.2 ⟨by omega, hdx⟩ ((RL_iff _ _).2 hrd)
    replace hK2 : ∀ k, K2 ≤ k → interchangeref17_Right.f k a0_0 a0_1 (dropL m l) = some true := hK2
    have hD : names_Drop.f a0_0 a0_1 l m = some (a0_0, a0_1, dropL m l, decide ((dropL m l).length < l.length)) := by
      unfold names_Drop.f
      rw [if_pos (by omega)]
    -- where it is refused
    have no : ∀ e : Int, e ≠ 0 → names_Add.f a0_0 a0_1 l m fr most = some (a0_0, a0_1, l, ⟨#[]⟩, ⟨#[]⟩, false, e) → ∃ k, interchangelaw17_NamesStay.f k a0_0 a0_1 l m fr most o = some true := by
      intro e he hA
      obtain ⟨K3, hK3⟩ := Same_self a0_0 a0_1 l (by omega)
      replace hK3 : ∀ k, K3 ≤ k → interchangeref17_Same.f k a0_0 a0_1 l a0_0 a0_1 l = some true := hK3
      obtain ⟨K4, hK4⟩ := Stay_j1_no a0_0 a0_1 l m o ⟨#[]⟩ fr false e he ⟨#[]⟩
      replace hK4 : ∀ k, K4 ≤ k → interchangelaw17_NamesStay.j1 k m fr o true e false a0_0 a0_1 l a0_0 a0_1 l ⟨#[]⟩ ⟨#[]⟩ false a0_0 a0_1 (dropL m l) = some true := hK4
      refine ⟨max (max K K2) (max K3 K4) + 1, ?_⟩
      unfold interchangelaw17_NamesStay.f
      rw [interchangelaw17_shown_true, Option.bind_some, hK _ (by omega), Option.bind_some, if_pos rfl, hA, Option.bind_some, hD, Option.bind_some]
      dsimp only
      rw [hK _ (by omega), Option.bind_some, if_pos rfl, hK2 _ (by omega), Option.bind_some]
      simp only [interchangelaw17_NamesStay.j0]
      unfold names_To.f
      rw [if_neg (by decide), Option.bind_some, find_gone]
      dsimp only
      rw [if_neg (by decide), if_neg he, hK3 _ (by omega), Option.bind_some]
      exact hK4 _ (by omega)
    rcases add_cases a0_0 a0_1 l m fr most h0.2 hr h1.1 (by omega) (by omega) w2 with ⟨_, e⟩ | ⟨_, _, _, e⟩ | ⟨_, _, _, _, e⟩ | ⟨_, mm, made', hmm, hm1, hm2, h0', h1', hnew, hus, e⟩
    · exact no 12 (by decide) e
    · exact no 14 (by decide) e
    · exact no 4 (by decide) e
    · have hra := hr.add (free := fr) hm1 hnew hus
      have hax : ∀ x ∈ l ++ [(⟨mm, upS a0_0 mm, fr⟩ : S31)], x.f0.size ≤ 140737488351232 := by
        intro x hxm
        rcases List.mem_append.1 hxm with h | h
        · exact (hx x h).1
        · rw [List.mem_singleton.1 h]; exact hm2
      have hal : (l ++ [(⟨mm, upS a0_0 mm, fr⟩ : S31)]).length = l.length + 1 := by simp
      obtain ⟨K3, hK3⟩ := Right_true (made := made') h0.2 ⟨by rw [hal]; omega, hax⟩ ((RL_iff _ _).2 hra)
      replace hK3 : ∀ k, K3 ≤ k → interchangeref17_Right.f k a0_0 made' (l ++ [⟨mm, upS a0_0 mm, fr⟩]) = some true := hK3
      obtain ⟨K4, hK4⟩ := Stay_j1_ok a0_0 a0_1 made' l m o mm fr hra hmm
      replace hK4 : ∀ k, K4 ≤ k → interchangelaw17_NamesStay.j1 k m fr o true 0 false a0_0 a0_1 l a0_0 made' (l ++ [⟨mm, upS a0_0 mm, fr⟩]) mm (upS a0_0 mm) fr a0_0 a0_1 (dropL m l) = some true := hK4
      refine ⟨max (max K K2) (max K3 K4) + 1, ?_⟩
      unfold interchangelaw17_NamesStay.f
      rw [interchangelaw17_shown_true, Option.bind_some, hK _ (by omega), Option.bind_some, if_pos rfl, e, Option.bind_some, hD, Option.bind_some]
      dsimp only
      rw [hK3 _ (by omega), Option.bind_some, if_pos rfl, hK2 _ (by omega), Option.bind_some]
      simp only [interchangelaw17_NamesStay.j0]
      unfold names_To.f
      rw [if_neg (by decide), Option.bind_some, find_gone]
      dsimp only
      rw [if_neg (by decide), if_pos trivial]
      exact hK4 _ (by omega)
end Go.Proofs.YtobdcmgdodahgaaDoor.Pure
