/- TagsRise's plain law: deliveries have the numbers 1, 2, 3 and on, and their own broker's numbers, as long as these rise; each is found. -/
import Derived.Test.YtoljcjlflanflaaQ5
import Derived.Test.YtoljcjlflanflaaL15
namespace Go.Proofs.Ytoljcjlflanflaa.Pure
open Go.RowKit Go.Proofs.Ytoljcjlflanflaa.Q Go.Proofs.YtoljcjlflanflaaW.PrintWords Go.Proofs.YtoljcjlflanflaaW.PrintLast Go.Proofs.YtoljcjlflanflaaW.PrintMore
set_option linter.unusedVariables false
set_option linter.unusedSimpArgs false

theorem wrapP {n : Nat} (h : 0 < n) (hm : n ≤ 9223372036854775807) : wrap64 ((n : Int) - 1) = ((n - 1 : Nat) : Int) := by unfold wrap64; omega
theorem small_ne {x : Int} {n : Nat} (h : x = (n : Int) + 1) (hn : n ≤ 200) : x ≠ 18446744073709551615 := by omega
theorem small_w {x : Int} {n : Nat} (h : x = (n : Int) + 1) (hn : n ≤ 200) : (x != IntKind.u64.wrap (IntKind.u64.wrap (n : Int) + 1)) = false := by
  rw [u64_wrap, u64_wrap, bne_eq_false_iff_eq]
  omega
theorem small_x {x : Int} {n : Nat} (h : x = (n : Int) + 1) (hn : n ≤ 200) : IntKind.u64.wrap (x + 1) = x + 1 := by rw [u64_wrap]; omega
theorem small17 {n : Nat} (hn : n ≤ 200) : n < 17592186044416 := by omega
theorem small5 {x n : Nat} (h : x = n) (hn : n ≤ 200) : ¬ (500 : Int) ≤ (x : Int) := by omega
theorem small8 {x n : Nat} (h : x = n) (hn : n ≤ 200) : x ≤ 8796093022000 := by omega
theorem deliver_ok (nx la v : Int) (L : List S47) (h0 : nx ≠ 18446744073709551615) (h1 : ¬ (500 : Int) ≤ (L.length : Int)) (h2 : L.length ≤ 8796093022000) :
    (v ≤ la ∧ tags_Deliver.f nx la L v 500 = some (nx, la, L, 0, 16)) ∨ (¬ v ≤ la ∧ tags_Deliver.f nx la L v 500 = some (IntKind.u64.wrap (nx + 1), v, L ++ [⟨nx, v⟩], nx, 0)) := by
  unfold tags_Deliver.f
  by_cases c : v ≤ la
  · exact .inl ⟨c, if_pos c⟩
  · exact .inr ⟨c, by rw [if_neg c, if_neg h0, if_neg h1, if_pos h2]⟩
theorem rise_l0 (l : List Int) (i : Int) (hl : l.length ≤ 200) (hw : ∀ x ∈ l, 0 ≤ x ∧ x ≤ 18446744073709551615) (hi : -9223372036854775808 ≤ i ∧ i ≤ 9223372036854775807) (d : Nat) :
    ∀ (k n : Nat) (took : List Int) (nx la : Int) (L : List S47), n ≤ l.length → l.length - n = d → 3 * d + 300 < k → took.length ≤ n → nx = (took.length : Int) + 1 → L.length = took.length → 0 ≤ la → GL nx la L →
      (∀ (j : Nat) (x : Int), took[j]? = some x → L[j]? = some ⟨(j : Int) + 1, x⟩) → (took = [] → la = 0) → (0 < took.length → took[took.length - 1]? = some la) →
      interchangelaw15_TagsRise.l0 k l i true took (n : Int) nx la L = some true := by
  induction d with
  | zero =>
    intro k n took nx la L h1 hd hk ht hnx hLl hla hG hat hla0 hlast
    obtain ⟨k, rfl⟩ : ∃ m, k = m + 1 := ⟨k - 1, by omega⟩
    simp only [interchangelaw15_TagsRise.l0]
    rw [if_neg (by omega)]
    by_cases c1 : i < 0
    · rw [if_pos c1]
    rw [if_neg c1]
    by_cases c2 : i ≥ (took.length : Int)
    · rw [if_pos c2]
    rw [if_neg c2]
    obtain ⟨j, rfl⟩ : ∃ j : Nat, i = (j : Int) := ⟨i.toNat, by omega⟩
    have hj : j < took.length := by omega
    have hwr : IntKind.u64.wrap (IntKind.u64.wrap (j : Int) + 1) = (j : Int) + 1 := by rw [u64_wrap, u64_wrap]; omega
    rw [hwr]
    have hLj := hat j took[j] (List.getElem?_eq_getElem hj)
    have hLj' : j < L.length := by omega
    rw [List.getElem?_eq_getElem hLj'] at hLj
    have hLj := Option.some.inj hLj
    rcases find_cases nx la L ((j : Int) + 1) hG.2 with ⟨_, h⟩ | ⟨x, hx, he, h⟩
    · exact absurd (by rw [hLj]) (h L[j] (List.getElem_mem hLj'))
    · rw [h]
      have hxe : x = L[j] := by
        obtain ⟨q, hq, rfl⟩ := List.getElem_of_mem hx
        have hLq := hat q took[q] (List.getElem?_eq_getElem (by omega))
        rw [List.getElem?_eq_getElem hq] at hLq
        have hLq := Option.some.inj hLq
        rw [hLq] at he
        simp only at he
        obtain rfl : q = j := by omega
        rfl
      subst hxe
      simp only [Option.bind_some, if_true]
      rw [if_pos (by omega), if_pos (by omega), rdI_nat took j hj, hLj]
      simp
  | succ d ih =>
    intro k n took nx la L h1 hd hk ht hnx hLl hla hG hat hla0 hlast
    obtain ⟨k, rfl⟩ : ∃ m, k = m + 1 + 1 + 1 := ⟨k - 3, by omega⟩
    have hlt : n < l.length := by omega
    clear hi
    have hv := (hw l[n] (List.getElem_mem hlt)).1
    have hwn := Aside0.mk (wrapN hlt (Nat.le_trans hl (by decide) : l.length ≤ 9223372036854775807))
    have htl : took.length ≤ 200 := Nat.le_trans ht (Nat.le_trans h1 hl)
    have hdel := Aside0.mk (deliver_ok nx la l[n] L (small_ne hnx htl) (small5 hLl htl) (small8 hLl htl))
    -- behind what was told last
    have hj1 : ∀ (r1 r2 r3 r4 r5), tags_Deliver.f nx la L l[n] 500 = some (r1, r2, r3, r4, r5) → interchangelaw15_TagsRise.j1 (k + 1 + 1) l i true took (n : Int) r4 r5 la r1 r2 r3 = some true := by
      intro r1 r2 r3 r4 r5 hD
      simp only [interchangelaw15_TagsRise.j1]
      rw [if_pos (by omega), if_pos (by omega), rdI_nat l n hlt]
      rcases hdel.out with ⟨c, hE⟩ | ⟨c, hE⟩
      · rw [hE] at hD
        simp only [Option.some.injEq, Prod.mk.injEq] at hD
        obtain ⟨rfl, rfl, rfl, rfl, rfl⟩ := hD
        have hdec : decide (l[n] > la) = false := decide_eq_false (by omega)
        rw [hdec, if_neg (by decide), if_neg (by decide)]
        simp only [interchangelaw15_TagsRise.j2]
        rw [if_neg (by simp), if_neg (by decide), hwn.out]
        exact ih k (n + 1) took _ _ _ (by omega) (by omega) (by omega) (by omega) hnx hLl hla hG hat hla0 hlast
      · rw [hE] at hD
        simp only [Option.some.injEq, Prod.mk.injEq] at hD
        obtain ⟨rfl, rfl, rfl, rfl, rfl⟩ := hD
        have hdec : decide (l[n] > la) = true := decide_eq_true (by omega)
        rw [hdec, if_neg (by decide), if_pos rfl]
        have hne : (nx != IntKind.u64.wrap (IntKind.u64.wrap (took.length : Int) + 1)) = false := small_w hnx htl
        rw [hne]
        simp only [interchangelaw15_TagsRise.j2]
        rw [if_neg (by simp), if_pos trivial, if_pos (by omega), if_pos (by omega), if_pos (small17 htl), rdI_nat l n hlt, hwn.out]
        have hwnx : IntKind.u64.wrap (nx + 1) = nx + 1 := small_x hnx htl
        rw [hwnx]
        refine ih k (n + 1) (took ++ [l[n]]) _ _ _ (by omega) (by omega) (by omega) (by simp; omega) (by simp; omega) (by simp; omega) (by omega) ⟨fun x hx => ?_, ?_⟩ ?_ (fun h => absurd h (by simp)) (fun _ => by simp)
        · rcases List.mem_append.1 hx with h | h
          · have := hG.1 x h; omega
          · rw [List.mem_singleton] at h; subst h; simp only; omega
        · rw [List.pairwise_append]
          refine ⟨hG.2, List.pairwise_singleton _ _, fun a ha b hb => ?_⟩
          rw [List.mem_singleton] at hb
          subst hb
          have := hG.1 a ha
          simp only
          omega
        · intro j x hj
          by_cases cj : j < took.length
          · rw [List.getElem?_append_left cj] at hj
            rw [List.getElem?_append_left (by omega)]
            exact hat j x hj
          · have hjl := (List.getElem?_eq_some_iff.1 hj).1
            rw [List.length_append, List.length_singleton] at hjl
            obtain rfl : j = took.length := by omega
            rw [List.getElem?_append_right (Nat.le_refl _)] at hj
            simp at hj
            subst hj
            rw [List.getElem?_append_right (by omega), hLl, hnx]
            simp
    have hDs : ∃ r1 r2 r3 r4 r5, tags_Deliver.f nx la L l[n] 500 = some (r1, r2, r3, r4, r5) := by
      rcases hdel.out with ⟨_, h⟩ | ⟨_, h⟩
      · exact ⟨_, _, _, _, _, h⟩
      · exact ⟨_, _, _, _, _, h⟩
    obtain ⟨r1, r2, r3, r4, r5, hD⟩ := hDs
    simp only [interchangelaw15_TagsRise.l0]
    rw [if_pos (by omega), if_pos (by omega), rdI_nat l n hlt, hD]
    simp only [Option.bind_some]
    by_cases c : (took.length : Int) > 0
    · have hlt2 : took.length - 1 < took.length := by omega
      have hla' := hlast (by omega)
      rw [List.getElem?_eq_getElem hlt2] at hla'
      have hwm : wrap64 ((took.length : Int) - 1) = ((took.length - 1 : Nat) : Int) := wrapP (by omega) (Nat.le_trans htl (by decide))
      have hrdl : rd took ((took.length - 1 : Nat) : Int) = la := by rw [rdI_nat took _ hlt2]; exact Option.some.inj hla'
      have hfin := hj1 _ _ _ _ _ hD
      rw [if_pos c, hwm, if_pos (by omega), if_pos (by omega), hrdl]
      exact hfin
    · have hla' := hla0 (List.eq_nil_of_length_eq_zero (by omega))
      have hfin := hj1 _ _ _ _ _ hD
      rw [hla'] at hfin
      rw [if_neg c]
      exact hfin

theorem TagsRise (l0 : List Int) (hb : l0.length * 8 ≤ 140737488351232) (hw : ∀ x ∈ l0, (Lit.int .u64 x).wf = true) (a1 : Int) (w1 : (Lit.int .i64 a1).wf = true) : ∃ k, interchangelaw15_TagsRise.f k l0 a1 = some true := by
  have h1 := i64_wf w1
  obtain ⟨k, hk⟩ : ∃ k, 3 * l0.length + 600 < k := ⟨_, Nat.lt_succ_self _⟩
  refine ⟨k, ?_⟩
  unfold interchangelaw15_TagsRise.f
  rw [interchangelaw15_shown_true]
  simp only [Option.bind_some, tags_New.f]
  by_cases c : (l0.length : Int) > 200
  · rw [if_pos c]
  rw [if_neg c]
  have := rise_l0 l0 a1 (by omega) (fun x hx => u64_wf (hw x hx)) h1 l0.length k 0 [] 1 0 [] (by omega) (by omega) (by omega) (by simp) (by simp) rfl (by omega) ⟨by simp, by simp⟩ (fun j x h => by simp at h) (fun _ => rfl) (fun h => by simp at h)
  simpa using this

end Go.Proofs.Ytoljcjlflanflaa.Pure
