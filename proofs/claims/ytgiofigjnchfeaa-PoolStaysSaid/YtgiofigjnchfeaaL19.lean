/- PoolStays: what is right stays right, whatever is done. -/
import Derived.Test.YtgiofigjnchfeaaL15
import Derived.Test.YtgiofigjnchfeaaQ30
import Derived.Test.YtgiofigjnchfeaaQ28
namespace Go.Proofs.Ytgiofigjnchfeaa.Q
open Go.RowKit Go.Proofs.YtgiofigjnchfeaaW.PrintWords Go.Proofs.YtgiofigjnchfeaaW.PrintLast Go.Proofs.YtgiofigjnchfeaaW.PrintMore
set_option linter.unusedVariables false
set_option linter.unusedSimpArgs false

theorem rd_set_nat (M : List Int) (c i : Nat) (x : Int) (hc : c < M.length) : rd (M.set c x) (i : Int) = if i = c then x else rd M (i : Int) := by
  unfold rd
  simp only [Int.toNat_natCast, List.getD_eq_getElem?_getD, List.getElem?_set]
  by_cases h : i = c
  · subst h
    rw [if_pos rfl, if_pos hc, if_pos rfl]
    rfl
  · rw [if_neg (fun e => h e.symm), if_neg h]
theorem slot_rd {M : List Int} {s : S29} (h : slotOk M s) : ∃ n : Nat, s.f0 = (n : Int) ∧ n < M.length := ⟨s.f0.toNat, by have := h.1; omega, by have := h.2.1; have := h.1; omega⟩
theorem Up_right {M : List Int} {L : List S29} (h : RightL M L) (c most : Int) : ∃ (M' : List Int) (e : Int), pool_Up.f 1 M L c most = some (M', L, e) ∧ RightL M' L := by
  have hlen := h.len
  by_cases c1 : c < 0
  · exact ⟨M, 1, by simp only [pool_Up.f, pool_Up.j0]; rw [if_pos c1]; exact if_pos trivial, h⟩
  · by_cases c2 : c ≥ (M.length : Int)
    · exact ⟨M, 1, by simp only [pool_Up.f, pool_Up.j0]; rw [if_neg c1, if_pos c2]; exact if_pos trivial, h⟩
    · by_cases c3 : most < 1
      · exact ⟨M, 1, by simp only [pool_Up.f, pool_Up.j0]; rw [if_neg c1, if_neg c2, if_pos c3]; exact if_pos trivial, h⟩
      · by_cases c4 : most > 65535
        · exact ⟨M, 1, by simp only [pool_Up.f, pool_Up.j0]; rw [if_neg c1, if_neg c2, if_neg c3, decide_eq_true c4, if_pos rfl], h⟩
        · obtain ⟨n, rfl⟩ : ∃ n : Nat, c = n := ⟨c.toNat, by omega⟩
          by_cases c5 : rd M (n : Int) = 0
          · refine ⟨M.set n most, 0, ?_, ?_⟩
            · simp only [pool_Up.f, pool_Up.j0]
              rw [if_neg c1, if_neg c2, if_neg c3, decide_eq_false c4, if_neg (by decide), if_pos (by omega), if_pos (by omega), if_pos c5]
              unfold slices_Clone_int_int.f
              rw [if_pos (by omega), Option.bind_some, if_pos (by omega), Int.toNat_natCast]
            · have hn : n < M.length := by omega
              refine ⟨by rw [List.length_set]; exact h.len, ?_, ?_, h.lt, h.who⟩
              · intro i hi
                rw [List.length_set] at hi
                rw [rd_set_nat M n i most hn]
                split
                · omega
                · exact h.most i hi
              · intro s hs
                have hk := h.ok s hs
                obtain ⟨q, hq, hql⟩ := slot_rd hk
                obtain ⟨a0, a1, a2, a3, a4, a5, a6, a7⟩ := hk
                refine ⟨a0, by rw [List.length_set]; exact a1, a2, ?_, a4, a5, a6, a7⟩
                rw [hq] at a3 ⊢
                rw [rd_set_nat M n q most hn]
                split
                · rename_i e
                  subst e
                  omega
                · exact a3
          · refine ⟨M, 14, ?_, h⟩
            simp only [pool_Up.f, pool_Up.j0]
            rw [if_neg c1, if_neg c2, if_neg c3, decide_eq_false c4, if_neg (by decide), if_pos (by omega), if_pos (by omega), if_neg c5]
theorem Down_right {M : List Int} {L : List S29} (h : RightL M L) (hL : L.length ≤ 200) (c : Int) : ∃ (M' : List Int) (L' : List S29) (o : List Int), pool_Down.f M L c = some (M', L', o) ∧ RightL M' L' ∧ L'.length ≤ L.length := by
  have hlen := h.len
  unfold pool_Down.f
  by_cases c1 : c < 0
  · exact ⟨M, L, [], if_pos c1, h, Nat.le_refl _⟩
  · rw [if_neg c1]
    by_cases c2 : (M.length : Int) ≤ c
    · exact ⟨M, L, [], if_pos c2, h, Nat.le_refl _⟩
    · rw [if_neg c2, if_pos (by omega), if_pos (by omega)]
      obtain ⟨n, rfl⟩ : ∃ n : Nat, c = n := ⟨c.toNat, by omega⟩
      have hn : n < M.length := by omega
      refine ⟨_, _, _, rfl, ?_, List.length_filter_le _ _⟩
      have hs := h.sub (L' := L.filter (fun x => !dnP (n : Int) x)) List.filter_sublist
      refine ⟨by rw [List.length_set]; exact h.len, ?_, ?_, hs.lt, hs.who⟩
      · intro i hi
        rw [List.length_set] at hi
        rw [Int.toNat_natCast, rd_set_nat M n i 0 hn]
        split
        · omega
        · exact h.most i hi
      · intro s hsm
        have hk := hs.ok s hsm
        have hne : s.f0 ≠ (n : Int) := by
          have := (List.mem_filter.1 hsm).2
          unfold dnP at this
          intro e
          rw [e] at this
          simp at this
        obtain ⟨q, hq, hql⟩ := slot_rd hk
        obtain ⟨a0, a1, a2, a3, a4, a5, a6, a7⟩ := hk
        refine ⟨a0, by rw [List.length_set]; exact a1, a2, ?_, a4, a5, a6, a7⟩
        rw [hq] at a3 hne ⊢
        rw [Int.toNat_natCast, rd_set_nat M n q 0 hn, if_neg (by omega)]
        exact a3
theorem Lease_right {M : List Int} {L : List S29} (h : RightL M L) (hL : L.length ≤ 200) (who : Int) : ∃ (L' : List S29) (a b c d e : Int), pool_Lease.f M L who = some (M, L', a, b, c, d, e) ∧ RightL M L' ∧ L'.length ≤ L.length + 1 := by
  rcases Lease_cases h (by omega) who with ⟨_, e⟩ | ⟨_, _, e⟩ | ⟨_, _, _, e⟩ | ⟨hw, hf, b, hb, hcnt, _, _, e⟩
  · exact ⟨L, _, _, _, _, _, e, h, by omega⟩
  · exact ⟨L, _, _, _, _, _, e, h, by omega⟩
  · exact ⟨L, _, _, _, _, _, e, h, by omega⟩
  · exact ⟨_, _, _, _, _, _, e, h.lease hb hcnt hw hf, by rw [insL_length]; exact Nat.le_refl _⟩
theorem setF_right {M : List Int} {L : List S29} (h : RightL M L) (c ch : Int) (ok : S29 → Bool) (upd : S29 → S29) (h0 : ∀ x, (upd x).f0 = x.f0) (h1 : ∀ x, (upd x).f1 = x.f1) (hok : ∀ x, ok x = true → slotOk M x → slotOk M (upd x)) (hw : ∀ x, (upd x).f3 = x.f3 ∨ (upd x).f3 = 0) :
    ∃ (L' : List S29) (e : Int), setF (atP c ch) ok upd M L = (M, L', e) ∧ RightL M L' ∧ L'.length = L.length := by
  unfold setF
  cases hs : setL (atP c ch) ok upd L with
  | none => exact ⟨L, 11, rfl, h, rfl⟩
  | some L' =>
    obtain ⟨e, x, hx, hp, ho⟩ := setL_map _ _ _ L L' hs (at_unique h.lt c ch) (sorted_nodup h.lt)
    refine ⟨L', 0, rfl, ?_, by rw [e, List.length_map]⟩
    rw [e]
    refine h.upd _ _ h0 h1 (fun y hy hpy => ?_) hw
    have : y = x := at_unique h.lt c ch y hy x hx hpy hp
    subst this
    exact hok y ho (h.ok y hy)
theorem Opened_right {M : List Int} {L : List S29} (h : RightL M L) (hL : L.length ≤ 200) (c ch : Int) : ∃ (L' : List S29) (e : Int), pool_Opened.f M L c ch = some (M, L', e) ∧ RightL M L' ∧ L'.length ≤ L.length := by
  unfold pool_Opened.f
  rw [if_pos (by omega)]
  obtain ⟨L', e, he, hr, hl⟩ := setF_right h c ch (fun x => ([1] : List Int).any fun y => x.f2 == y) opnS (fun _ => rfl) (fun _ => rfl) (fun x ho hk => by
    have h2 : x.f2 = 1 := by simpa using ho
    obtain ⟨a0, a1, a2, a3, a4, a5, a6, a7⟩ := hk
    exact ⟨a0, a1, a2, a3, by simp [opnS], by simp [opnS], a6, by simp only [opnS]; omega⟩) (fun _ => .inl rfl)
  exact ⟨L', e, by rw [he], hr, by omega⟩
theorem Release_right {M : List Int} {L : List S29} (h : RightL M L) (hL : L.length ≤ 200) (c ch : Int) : ∃ (L' : List S29) (e : Int), pool_Release.f M L c ch = some (M, L', e) ∧ RightL M L' ∧ L'.length ≤ L.length := by
  unfold pool_Release.f
  rw [if_pos (by omega)]
  obtain ⟨L', e, he, hr, hl⟩ := setF_right h c ch (fun x => ([1, 2] : List Int).any fun y => x.f2 == y) relS (fun _ => rfl) (fun _ => rfl) (fun x ho hk => by
    obtain ⟨a0, a1, a2, a3, a4, a5, a6, a7⟩ := hk
    exact ⟨a0, a1, a2, a3, by simp [relS], by simp [relS], by simp [relS], by simp [relS]⟩) (fun _ => .inr rfl)
  exact ⟨L', e, by rw [he], hr, by omega⟩
theorem Clean_right {M : List Int} {L : List S29} (h : RightL M L) (hL : L.length ≤ 200) (c ch : Int) : ∃ (L' : List S29) (e : Int), pool_Clean.f M L c ch = some (M, L', e) ∧ RightL M L' ∧ L'.length ≤ L.length := by
  unfold pool_Clean.f
  rw [if_pos (by omega)]
  by_cases h0 : (L.filter (clP c ch)).length = 0
  · exact ⟨L, 11, if_pos h0, h, Nat.le_refl _⟩
  · exact ⟨_, 0, if_neg h0, h.sub List.filter_sublist, List.length_filter_le _ _⟩
theorem New_right (n : Int) : ∃ M : List Int, pool_New.f n = some (M, []) ∧ RightL M [] := by
  have h0 : 0 ≤ mn (mx n 0) 64 := by unfold mn mx; split <;> (try split) <;> omega
  have h1 : mn (mx n 0) 64 ≤ 64 := by unfold mn mx; split <;> (try split) <;> omega
  refine ⟨List.replicate (mn (mx n 0) 64).toNat 0, ?_, ?_⟩
  · unfold pool_New.f
    rw [if_pos h0, if_pos (by omega)]
  · refine ⟨by rw [List.length_replicate]; omega, ?_, fun s hs => (by cases hs), List.Pairwise.nil, List.Pairwise.nil⟩
    intro i hi
    rw [List.length_replicate] at hi
    unfold rd
    rw [Int.toNat_natCast, List.getD_eq_getElem?_getD, List.getElem?_replicate, if_pos hi]
    simp
theorem Right_yes {M : List Int} {L : List S29} (h : RightL M L) (hL : L.length ≤ 200) : ∃ k, interchangeref13_Right.f k M L = some true := by
  have := h.len
  obtain ⟨v, hv, hv2⟩ := Right_ev M L (by omega)
  rw [hv2.2 h.back] at hv
  exact hv.run
end Go.Proofs.Ytgiofigjnchfeaa.Q
