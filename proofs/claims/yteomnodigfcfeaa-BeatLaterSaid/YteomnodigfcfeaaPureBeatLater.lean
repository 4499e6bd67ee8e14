/- BeatLater's plain law: what is taken at two times, one behind the other, is what is taken at the later one, in order. -/
import Derived.Test.YteomnodigfcfeaaQ7
import Derived.Test.YteomnodigfcfeaaL26
namespace Go.Proofs.Yteomnodigfcfeaa.Pure
open Go.RowKit Go.Proofs.Yteomnodigfcfeaa.Q Go.Proofs.YteomnodigfcfeaaW.PrintWords Go.Proofs.YteomnodigfcfeaaW.PrintLast Go.Proofs.YteomnodigfcfeaaW.PrintMore
set_option linter.unusedVariables false
set_option linter.unusedSimpArgs false

theorem same_l0 (l : List S24) (hn : l.length ≤ 9223372036854775807) (d : Nat) : ∀ (k n : Nat), n ≤ l.length → l.length - n = d → d < k → interchangeref12_Same.l0 k l l (n : Int) = some true := by
  induction d with
  | zero =>
    intro k n h1 hd hk
    obtain ⟨k, rfl⟩ : ∃ m, k = m + 1 := ⟨k - 1, by omega⟩
    simp only [interchangeref12_Same.l0]
    rw [if_neg (by omega)]
  | succ d ih =>
    intro k n h1 hd hk
    obtain ⟨k, rfl⟩ : ∃ m, k = m + 1 := ⟨k - 1, by omega⟩
    have hlt : n < l.length := by omega
    simp only [interchangeref12_Same.l0]
    rw [if_pos (by omega), if_pos (by omega), if_pos (by omega), if_neg (by simp), wrapN hlt hn]
    exact ih k (n + 1) (by omega) (by omega) (by omega)
theorem same_refl (l : List S24) (hn : l.length ≤ 9223372036854775807) (k : Nat) (hk : l.length < k) : interchangeref12_Same.f k l l = some true := by
  unfold interchangeref12_Same.f
  rw [if_pos rfl]
  have h := same_l0 l hn l.length k 0 (by omega) (by omega) hk
  rwa [Int.natCast_zero] at h
theorem wrapA {a b c : Nat} (h : a + b = c) (hc : c ≤ 200) : wrap64 ((a : Int) + (b : Int)) = (c : Int) := by unfold wrap64; omega
theorem later_l0 (p q : List Int) (hn : (p ++ q).length ≤ 200) (d : Nat) : ∀ (k n : Nat), n ≤ (p ++ q).length → (p ++ q).length - n = d → d < k → interchangelaw12_BeatLater.l0 k true p q (p ++ q) (n : Int) = some true := by
  induction d with
  | zero =>
    intro k n h1 hd hk
    obtain ⟨k, rfl⟩ : ∃ m, k = m + 1 := ⟨k - 1, by omega⟩
    simp only [interchangelaw12_BeatLater.l0]
    rw [if_neg (by omega)]
  | succ d ih =>
    intro k n h1 hd hk
    obtain ⟨k, rfl⟩ : ∃ m, k = m + 1 := ⟨k - 1, by omega⟩
    have hlt : n < (p ++ q).length := by omega
    have hll : (p ++ q).length = p.length + q.length := List.length_append
    have hw := Aside0.mk (wrapN hlt (by omega))
    have hnx := ih k (n + 1) (by omega) (by omega) (by omega)
    simp only [interchangelaw12_BeatLater.l0]
    rw [if_pos (by omega)]
    by_cases c : n < p.length
    · have e : (p ++ q)[n] = p[n] := List.getElem_append_left c
      rw [if_pos (by omega), if_pos (by omega), rdI_nat _ n hlt, rdI_nat p n c, e, if_pos rfl, if_neg (by omega), hw.out]
      exact hnx
    · have hq : n - p.length < q.length := by omega
      have e : (p ++ q)[n] = q[n - p.length] := List.getElem_append_right (by omega)
      have hws := Aside0.mk (wrapS (n := n) (m := p.length) (by omega) (by omega))
      rw [if_neg (by omega), if_pos (by omega), if_pos (by omega), hws.out, if_pos (by omega), if_pos (by omega), rdI_nat _ n hlt, rdI_nat q _ hq, e, if_pos rfl, hw.out]
      exact hnx

theorem later_e1 (a1 a2 : Int) (h : a1 ≤ a2) (S : List S24) : ((S.filter fun x => !decide (x.f0 ≤ a1)).filter fun x => !decide (x.f0 ≤ a2)) = S.filter fun x => !decide (x.f0 ≤ a2) := by
  rw [List.filter_filter]
  refine List.filter_congr (fun x _ => ?_)
  rw [Bool.eq_iff_iff]
  simp
  omega
theorem later_e2 (a1 a2 : Int) (h : a1 ≤ a2) (S : List S24) (hs : S.Pairwise leS) : (S.filter fun x => decide (x.f0 ≤ a2)) = (S.filter fun x => decide (x.f0 ≤ a1)) ++ ((S.filter fun x => !decide (x.f0 ≤ a1)).filter fun x => decide (x.f0 ≤ a2)) := by
  have h1 : ((S.filter fun x => decide (x.f0 ≤ a1)).filter fun x => decide (x.f0 ≤ a2)) = S.filter fun x => decide (x.f0 ≤ a1) := by
    rw [List.filter_eq_self]
    intro x hx
    have := (List.mem_filter.1 hx).2
    simp at this ⊢
    omega
  have h3 : (S.filter fun x => decide (x.f0 ≤ a2)) = ((S.filter fun x => decide (x.f0 ≤ a1)) ++ (S.filter fun x => !decide (x.f0 ≤ a1))).filter fun x => decide (x.f0 ≤ a2) := by rw [← split_due a1 S hs]
  rw [List.filter_append, h1] at h3
  exact h3
theorem later_fin (k : Nat) (P R : List Int) (Z : List S24) (hP : P.length + R.length ≤ 200) (hZ : Z.length ≤ 200) (hk : 300 < k) :
    (if wrap64 ((P.length : Int) + (R.length : Int)) = ((P ++ R).length : Int) then ((interchangeref12_Same.f (k + 1) Z Z).bind fun t312 => (interchangelaw12_BeatLater.j1 (k + 1) true P R (P ++ R) (!t312))) else (interchangelaw12_BeatLater.j1 (k + 1) true P R (P ++ R) true)) = some true := by
  have hwr := wrapA (a := P.length) (b := R.length) (c := (P ++ R).length) (by simp) (by simp; exact hP)
  rw [if_pos hwr, same_refl Z (Nat.le_trans hZ (by decide)) (k + 1) (by omega)]
  rw [Option.bind_some, Bool.not_true]
  simp only [interchangelaw12_BeatLater.j1]
  rw [if_neg (by simp)]
  have hl := later_l0 P R (by simp; exact hP) _ k 0 (Nat.zero_le _) rfl (by simp; omega)
  rw [Int.natCast_zero] at hl
  exact hl
theorem later_j0 (k : Nat) (l : List S24) (a1 a2 : Int) (h : a1 ≤ a2) (hl : l.length ≤ 200) (hk : 300 < k) : interchangelaw12_BeatLater.j0 (k + 1 + 1) l a1 a2 true false = some true := by
  have hl8 : l.length ≤ 8796093022000 := Nat.le_trans hl (by decide)
  obtain ⟨hp, hs⟩ := sortedL_spec l
  obtain ⟨S, hS⟩ : ∃ S, sortedL l = S := ⟨_, rfl⟩
  have hSl : S.length ≤ 200 := by rw [← hS, sortedL_length]; exact hl
  rw [hS] at hs
  have hx : (S.filter fun x => !decide (x.f0 ≤ a1)).length ≤ 8796093022000 := Nat.le_trans (List.length_filter_le _ _) (Nat.le_trans hSl (by decide))
  have hz : (S.filter fun x => !decide (x.f0 ≤ a2)).length ≤ 200 := Nat.le_trans (List.length_filter_le _ _) hSl
  have t1 := take_ok l a1 hl8
  have t2 := take_ok l a2 hl8
  have t3 := take_ok (S.filter fun x => !decide (x.f0 ≤ a1)) a2 hx
  rw [hS] at t1 t2
  rw [sortedL_of _ (hs.filter _), later_e1 a1 a2 h S] at t3
  have e2 := later_e2 a1 a2 h S hs
  obtain ⟨P, hP⟩ : ∃ P, (S.filter fun x => decide (x.f0 ≤ a1)) = P := ⟨_, rfl⟩
  obtain ⟨R, hR⟩ : ∃ R, ((S.filter fun x => !decide (x.f0 ≤ a1)).filter fun x => decide (x.f0 ≤ a2)) = R := ⟨_, rfl⟩
  obtain ⟨X, hX⟩ : ∃ X, (S.filter fun x => !decide (x.f0 ≤ a1)) = X := ⟨_, rfl⟩
  obtain ⟨Z, hZ⟩ : ∃ Z, (S.filter fun x => !decide (x.f0 ≤ a2)) = Z := ⟨_, rfl⟩
  have hlen : P.length + R.length ≤ 200 := by
    have h1 := List.length_filter_le (fun x : S24 => decide (x.f0 ≤ a2)) S
    rw [e2, hP, hR, List.length_append] at h1
    exact Nat.le_trans h1 hSl
  rw [hP, hR] at e2
  rw [e2, List.map_append, hZ] at t2
  rw [hR, hX, hZ] at t3
  rw [hP, hX] at t1
  rw [hZ] at hz
  have hfin := later_fin k (P.map (·.f1)) (R.map (·.f1)) Z (by simp; exact hlen) hz hk
  simp only [interchangelaw12_BeatLater.j0]
  rw [if_neg (by simp), t1, Option.bind_some, t3, Option.bind_some, t2, Option.bind_some]
  exact hfin

theorem BeatLater (l0 : List S24) (hb : l0.length * 16 ≤ 140737488351232) (hw : ∀ x ∈ l0, (Lit.int .i64 x.f0).wf = true ∧ (Lit.int .i64 x.f1).wf = true) (a1 : Int) (w1 : (Lit.int .i64 a1).wf = true) (a2 : Int) (w2 : (Lit.int .i64 a2).wf = true) : ∃ k, interchangelaw12_BeatLater.f k l0 a1 a2 = some true := by
  refine ⟨301 + 1 + 1, ?_⟩
  unfold interchangelaw12_BeatLater.f
  rw [interchangelaw12_shown_true, Option.bind_some]
  by_cases c : a1 > a2
  · rw [if_pos c]
    simp only [interchangelaw12_BeatLater.j0]
    rw [if_pos trivial]
  rw [if_neg c]
  by_cases c2 : (l0.length : Int) > 200
  · rw [decide_eq_true c2]
    simp only [interchangelaw12_BeatLater.j0]
    rw [if_pos trivial]
  · rw [decide_eq_false c2]
    exact later_j0 301 l0 a1 a2 (by omega) (by omega) (by omega)
end Go.Proofs.Yteomnodigfcfeaa.Pure
