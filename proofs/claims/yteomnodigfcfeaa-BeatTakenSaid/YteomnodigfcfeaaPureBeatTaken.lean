/- BeatTaken's plain law: what isn't taken is later, what is taken isn't; each is one of both, in order. -/
import Derived.Test.YteomnodigfcfeaaQ4
import Derived.Test.YteomnodigfcfeaaL26
namespace Go.Proofs.Yteomnodigfcfeaa.Pure
open Go.RowKit Go.Proofs.Yteomnodigfcfeaa.Q Go.Proofs.YteomnodigfcfeaaW.PrintWords Go.Proofs.YteomnodigfcfeaaW.PrintLast Go.Proofs.YteomnodigfcfeaaW.PrintMore
set_option linter.unusedVariables false
set_option linter.unusedSimpArgs false

theorem taken_l0 (l left : List S24) (now : Int) (ids : List Int) (hn : l.length ≤ 200) (d : Nat) : ∀ (m n : Nat), n ≤ l.length → l.length - n = d →
    interchangelaw12_BeatTaken.l0 (d + 1 + m) l now true left ids (((l.take n).filter fun x => decide (x.f0 ≤ now)).length : Int) (n : Int) = interchangelaw12_BeatTaken.l1 m l now true left ids ((l.filter fun x => decide (x.f0 ≤ now)).length : Int) 0 := by
  induction d with
  | zero =>
    intro m n h1 hd
    obtain rfl : n = l.length := by omega
    rw [show 0 + 1 + m = m + 1 by omega]
    simp only [interchangelaw12_BeatTaken.l0]
    rw [if_neg (by omega), List.take_length]
  | succ d ih =>
    intro m n h1 hd
    have hlt : n < l.length := by omega
    have htk : l.take (n + 1) = l.take n ++ [l[n]] := List.take_succ_eq_append_getElem hlt
    have hcl : ((l.take n).filter fun x => decide (x.f0 ≤ now)).length < l.length := by
      have := List.length_filter_le (fun x : S24 => decide (x.f0 ≤ now)) (l.take n)
      rw [List.length_take] at this
      omega
    rw [show d + 1 + 1 + m = (d + 1 + m) + 1 by omega]
    simp only [interchangelaw12_BeatTaken.l0]
    have hih := ih m (n + 1) (by omega) (by omega)
    rw [htk, List.filter_append] at hih
    rw [if_pos (by omega), if_pos (by omega), rdT_nat l n hlt, wrapN hlt (by omega), wrapN hcl (by omega)]
    by_cases c : l[n].f0 ≤ now
    · rw [if_pos c]
      rw [show ([l[n]].filter fun x => decide (x.f0 ≤ now)) = [l[n]] by simp [c], List.length_append] at hih
      exact hih
    · rw [if_neg c]
      rw [show ([l[n]].filter fun x => decide (x.f0 ≤ now)) = [] by simp [c], List.append_nil] at hih
      exact hih
theorem taken_l1 (l left : List S24) (now : Int) (ids : List Int) (c : Nat) (hn : left.length ≤ 200) (hll : l.length ≤ 200) (hs : left.Pairwise leS) (hlate : ∀ x ∈ left, ¬ x.f0 ≤ now) (hids : ids.length = c) (hlen : left.length + c = l.length) (d : Nat) : ∀ (k n : Nat), n ≤ left.length → left.length - n = d → d < k →
    interchangelaw12_BeatTaken.l1 k l now true left ids (c : Int) (n : Int) = some true := by
  induction d with
  | zero =>
    intro k n h1 hd hk
    obtain ⟨k, rfl⟩ : ∃ m, k = m + 1 := ⟨k - 1, by omega⟩
    simp only [interchangelaw12_BeatTaken.l1]
    rw [if_neg (by omega), if_pos trivial, if_pos (by omega), wrapS (by omega) (by omega)]
    simp
    omega
  | succ d ih =>
    intro k n h1 hd hk
    obtain ⟨k, rfl⟩ : ∃ m, k = m + 1 := ⟨k - 1, by omega⟩
    have hlt : n < left.length := by omega
    have hnext := ih k (n + 1) (by omega) (by omega) (by omega)
    simp only [interchangelaw12_BeatTaken.l1]
    rw [if_pos (by omega), if_pos (by omega), rdT_nat left n hlt, if_neg (hlate _ (List.getElem_mem hlt)), wrapN hlt (by omega)]
    by_cases c0 : (n : Int) > 0
    · have hlt2 : n - 1 < left.length := by omega
      have hle := (leS_iff _ _).1 (List.pairwise_iff_getElem.1 hs (n - 1) n hlt2 hlt (by omega))
      rw [if_pos c0, wrapP (by omega) (by omega), if_pos (by omega), if_pos (by omega), rdT_nat left (n - 1) hlt2, if_neg (by omega)]
      by_cases c1 : left[n - 1].f0 = left[n].f0
      · rw [if_pos c1, if_neg (by omega)]; exact hnext
      · rw [if_neg c1]; exact hnext
    · rw [if_neg c0]; exact hnext

theorem BeatTaken (l0 : List S24) (hb : l0.length * 16 ≤ 140737488351232) (hw : ∀ x ∈ l0, (Lit.int .i64 x.f0).wf = true ∧ (Lit.int .i64 x.f1).wf = true) (a1 : Int) (w1 : (Lit.int .i64 a1).wf = true) : ∃ k, interchangelaw12_BeatTaken.f k l0 a1 = some true := by
  by_cases c : (l0.length : Int) > 200
  · refine ⟨0, ?_⟩
    unfold interchangelaw12_BeatTaken.f
    rw [interchangelaw12_shown_true]
    simp only [Option.bind_some]
    rw [if_pos c]
  refine ⟨l0.length + 1 + (l0.length + 1), ?_⟩
  unfold interchangelaw12_BeatTaken.f
  rw [interchangelaw12_shown_true]
  simp only [Option.bind_some]
  rw [if_neg c, take_ok l0 a1 (by omega)]
  simp only [Option.bind_some]
  obtain ⟨hp, hs⟩ := sortedL_spec l0
  have h0 := taken_l0 l0 ((sortedL l0).filter (fun x => !decide (x.f0 ≤ a1))) a1 (((sortedL l0).filter fun x => decide (x.f0 ≤ a1)).map (·.f1)) (by omega) l0.length (l0.length + 1) 0 (by omega) (by omega)
  rw [List.take_zero] at h0
  have h0' : interchangelaw12_BeatTaken.l0 (l0.length + 1 + (l0.length + 1)) l0 a1 true ((sortedL l0).filter (fun x => !decide (x.f0 ≤ a1))) (((sortedL l0).filter fun x => decide (x.f0 ≤ a1)).map (·.f1)) 0 0 = _ := h0
  rw [h0']
  have hfl := filt_len (fun x => decide (x.f0 ≤ a1)) (sortedL l0)
  rw [sortedL_length] at hfl
  have hcount : ((sortedL l0).filter fun x => decide (x.f0 ≤ a1)).length = (l0.filter fun x => decide (x.f0 ≤ a1)).length := (hp.filter _).length_eq
  exact taken_l1 l0 _ a1 _ _ (by omega) (by omega) (hs.filter _) (fun x hx => by have := (List.mem_filter.1 hx).2; simpa using this) (by rw [List.length_map]; exact hcount) (by omega) _ (l0.length + 1) 0 (by omega) rfl (by omega)
end Go.Proofs.Yteomnodigfcfeaa.Pure
