/- PoolActs: the plain law. -/
import Derived.Test.YtgiofigjnchfeaaQ8
namespace Go.Proofs.Ytgiofigjnchfeaa.Q
open Go.RowKit Go.Proofs.YtgiofigjnchfeaaW.PrintWords Go.Proofs.YtgiofigjnchfeaaW.PrintLast Go.Proofs.YtgiofigjnchfeaaW.PrintMore
set_option linter.unusedVariables false
set_option linter.unusedSimpArgs false

theorem At_eq (M : List Int) (L : List S29) (c ch : Int) : pool_At.f M L c ch = some (slotV (L.find? (atP c ch))) := by
  unfold pool_At.f; cases L.find? (atP c ch) <;> rfl
/-! New. -/
theorem New_same (n : Int) : ∃ m : Nat, m ≤ 64 ∧ pool_New.f n = some (List.replicate m 0, []) ∧ interchangeref13_New.f n = some (List.replicate m 0, []) := by
  by_cases h0 : n < 0
  · refine ⟨0, by omega, ?_, ?_⟩
    · unfold pool_New.f
      have : mn (mx n 0) 64 = 0 := by unfold mn mx; (repeat' split) <;> omega
      rw [this, if_pos (by omega), if_pos (by simp)]
      rfl
    · unfold interchangeref13_New.f
      rw [if_pos h0, if_neg (by decide), if_pos (by decide)]
  · by_cases h1 : n > 64
    · refine ⟨64, by omega, ?_, ?_⟩
      · unfold pool_New.f
        have : mn (mx n 0) 64 = 64 := by unfold mn mx; (repeat' split) <;> omega
        rw [this, if_pos (by omega), if_pos (by simp)]
        rfl
      · unfold interchangeref13_New.f
        rw [if_neg h0, if_pos h1, if_pos (by decide)]
    · refine ⟨n.toNat, by omega, ?_, ?_⟩
      · unfold pool_New.f
        have : mn (mx n 0) 64 = n := by unfold mn mx; (repeat' split) <;> omega
        rw [this, if_pos (by omega), if_pos (by omega)]
      · unfold interchangeref13_New.f
        rw [if_neg h0, if_neg h1, if_pos (by omega), if_pos (by omega)]
/-! Up. -/
theorem copied_eq {M : List Int} {L : List S29} (hM : M.length ≤ 64) (hL : L.length ≤ 200) : interchangeref13_copied.f M L = some (M, L) := by
  unfold interchangeref13_copied.f
  simp only [Option.bind_some, List.length_nil, List.nil_append]
  rw [if_pos (by omega), if_pos (by omega)]
theorem Up_same {M : List Int} {L : List S29} (hM : M.length ≤ 64) (hL : L.length ≤ 200) (c n : Int) : ∃ v : List Int × List S29 × Int, Ev (fun k => pool_Up.f k M L c n) v ∧ Ev (fun k => interchangeref13_Up.f k M L c n) v ∧ v.1.length ≤ 64 ∧ v.2.1.length ≤ 200 := by
  by_cases c1 : c < 0
  · exact ⟨(M, L, 1), Ev.succ (h := fun _ => some _) (fun k => by simp only [pool_Up.f, pool_Up.j0]; rw [if_pos c1]; exact if_pos trivial) (Ev.const _), Ev.succ (h := fun _ => some _) (fun k => by simp only [interchangeref13_Up.f, interchangeref13_Up.j0]; rw [if_pos c1]; exact if_pos trivial) (Ev.const _), hM, hL⟩
  by_cases c2 : c ≥ (M.length : Int)
  · exact ⟨(M, L, 1), Ev.succ (h := fun _ => some _) (fun k => by simp only [pool_Up.f, pool_Up.j0]; rw [if_neg c1, if_pos c2]; exact if_pos trivial) (Ev.const _), Ev.succ (h := fun _ => some _) (fun k => by simp only [interchangeref13_Up.f, interchangeref13_Up.j0]; rw [if_neg c1, if_pos c2]; exact if_pos trivial) (Ev.const _), hM, hL⟩
  by_cases c3 : n < 1
  · exact ⟨(M, L, 1), Ev.succ (h := fun _ => some _) (fun k => by simp only [pool_Up.f, pool_Up.j0]; rw [if_neg c1, if_neg c2, if_pos c3]; exact if_pos trivial) (Ev.const _), Ev.succ (h := fun _ => some _) (fun k => by simp only [interchangeref13_Up.f, interchangeref13_Up.j0]; rw [if_neg c1, if_neg c2, if_pos c3]; exact if_pos trivial) (Ev.const _), hM, hL⟩
  by_cases c4 : n > 65535
  · exact ⟨(M, L, 1), Ev.succ (h := fun _ => some _) (fun k => by simp only [pool_Up.f, pool_Up.j0]; rw [if_neg c1, if_neg c2, if_neg c3, decide_eq_true c4, if_pos rfl]) (Ev.const _), Ev.succ (h := fun _ => some _) (fun k => by simp only [interchangeref13_Up.f, interchangeref13_Up.j0]; rw [if_neg c1, if_neg c2, if_neg c3, decide_eq_true c4, if_pos rfl]) (Ev.const _), hM, hL⟩
  by_cases c5 : rd M c = 0
  · refine ⟨(M.set c.toNat n, L, 0), Ev.succ (h := fun _ => some _) (fun k => ?_) (Ev.const _), Ev.succ (h := fun _ => some _) (fun k => ?_) (Ev.const _), by simpa using hM, hL⟩
    · simp only [pool_Up.f, pool_Up.j0]
      rw [if_neg c1, if_neg c2, if_neg c3, decide_eq_false c4, if_neg (by decide), if_pos (by omega), if_pos (by omega), if_pos c5]
      unfold slices_Clone_int_int.f
      rw [if_pos (by omega), Option.bind_some, if_pos (by omega)]
    · simp only [interchangeref13_Up.f, interchangeref13_Up.j0]
      rw [if_neg c1, if_neg c2, if_neg c3, decide_eq_false c4, if_neg (by decide), if_pos (by omega), if_pos (by omega), if_pos c5, copied_eq hM hL, Option.bind_some, if_pos (by show c < (M.length : Int); omega)]
  · refine ⟨(M, L, 14), Ev.succ (h := fun _ => some _) (fun k => ?_) (Ev.const _), Ev.succ (h := fun _ => some _) (fun k => ?_) (Ev.const _), hM, hL⟩
    · simp only [pool_Up.f, pool_Up.j0]
      rw [if_neg c1, if_neg c2, if_neg c3, decide_eq_false c4, if_neg (by decide), if_pos (by omega), if_pos (by omega), if_neg c5]
    · simp only [interchangeref13_Up.f, interchangeref13_Up.j0]
      rw [if_neg c1, if_neg c2, if_neg c3, decide_eq_false c4, if_neg (by decide), if_pos (by omega), if_pos (by omega), if_neg c5]
/-! Down. -/
def outL (c : Int) (L : List S29) : List Int := ((L.filter (dnP c)).map (·.f3)).filter (fun y => y != 0)
def leftL (c : Int) (L : List S29) : List S29 := L.filter (fun x => !dnP c x)
theorem Down_l0 (M M' : List Int) (L : List S29) (c : Int) (hL : L.length ≤ 200) : ∀ (r i : Nat) (W : List Int) (K : List S29), i + r = L.length → W.length ≤ i → K.length ≤ i →
    Ev (fun k => interchangeref13_Down.l0 k c W i M L M' K) (M', K ++ leftL c (L.drop i), W ++ outL c (L.drop i))
  | 0, i, W, K, hi, hW, hK => by
    rw [List.drop_of_length_le (by omega)]
    refine Ev.succ (h := fun _ => some _) (fun k => ?_) (Ev.const _)
    simp only [interchangeref13_Down.l0]
    rw [if_neg (by omega)]
    simp [leftL, outL]
  | r + 1, i, W, K, hi, hW, hK => by
    have hil : i < L.length := by omega
    have hrd := rd29_nat hil
    have hw := w64 (n := i) (N := L.length) hil (by omega)
    rw [List.drop_eq_getElem_cons hil]
    generalize L[i] = x at hrd
    by_cases h0 : x.f0 = c
    · have hd : dnP c x = true := by unfold dnP; simpa using h0
      by_cases h1 : x.f3 = 0
      · have hn := Down_l0 M M' L c hL r (i + 1) W K (by omega) (by omega) (by omega)
        rw [show leftL c (x :: L.drop (i + 1)) = leftL c (L.drop (i + 1)) by simp [leftL, hd], show outL c (x :: L.drop (i + 1)) = outL c (L.drop (i + 1)) by simp [outL, hd, h1]]
        refine Ev.succ (fun k => ?_) hn
        conv => lhs; unfold interchangeref13_Down.l0
        rw [if_pos (by omega), if_pos (by omega), hrd, if_pos h0, if_pos h1, hw]
      · have hn := Down_l0 M M' L c hL r (i + 1) (W ++ [x.f3]) K (by omega) (by simp; omega) (by omega)
        rw [show leftL c (x :: L.drop (i + 1)) = leftL c (L.drop (i + 1)) by simp [leftL, hd], show W ++ outL c (x :: L.drop (i + 1)) = W ++ [x.f3] ++ outL c (L.drop (i + 1)) by simp [outL, hd, h1]]
        refine Ev.succ (fun k => ?_) hn
        conv => lhs; unfold interchangeref13_Down.l0
        rw [if_pos (by omega), if_pos (by omega), hrd, if_pos h0, if_neg h1, if_pos (by omega), hw]
    · have hd : dnP c x = false := by unfold dnP; simpa using h0
      have hn := Down_l0 M M' L c hL r (i + 1) W (K ++ [x]) (by omega) (by omega) (by simp; omega)
      rw [show K ++ leftL c (x :: L.drop (i + 1)) = K ++ [x] ++ leftL c (L.drop (i + 1)) by simp [leftL, hd], show outL c (x :: L.drop (i + 1)) = outL c (L.drop (i + 1)) by simp [outL, hd]]
      refine Ev.succ (fun k => ?_) hn
      conv => lhs; unfold interchangeref13_Down.l0
      rw [if_pos (by omega), if_pos (by omega), hrd, if_neg h0, if_pos (by omega), hw]
theorem Down_same {M : List Int} {L : List S29} (hM : M.length ≤ 64) (hL : L.length ≤ 200) (c : Int) : ∃ v : List Int × List S29 × List Int, pool_Down.f M L c = some v ∧ Ev (fun k => interchangeref13_Down.f k M L c) v ∧ v.1.length ≤ 64 ∧ v.2.1.length ≤ 200 ∧ v.2.2.length ≤ 200 := by
  by_cases c1 : c < 0
  · exact ⟨(M, L, []), by unfold pool_Down.f; rw [if_pos c1], Ev.succ (h := fun _ => some _) (fun k => by simp only [interchangeref13_Down.f, interchangeref13_Down.j0]; rw [if_pos c1]; exact if_pos trivial) (Ev.const _), hM, hL, by simp⟩
  by_cases c2 : (M.length : Int) ≤ c
  · exact ⟨(M, L, []), by unfold pool_Down.f; rw [if_neg c1, if_pos c2], Ev.succ (h := fun _ => some _) (fun k => by simp only [interchangeref13_Down.f, interchangeref13_Down.j0]; rw [if_neg c1, decide_eq_true (show c ≥ (M.length : Int) from c2), if_pos rfl]) (Ev.const _), hM, hL, by simp⟩
  refine ⟨(M.set c.toNat 0, leftL c L, outL c L), by unfold pool_Down.f; rw [if_neg c1, if_neg c2, if_pos (by omega), if_pos (by omega)]; rfl, ?_, by simpa using hM, Nat.le_trans (List.length_filter_le _ _) hL, ?_⟩
  · have h := Down_l0 M (M.set c.toNat 0) L c hL L.length 0 [] [] (by omega) (by simp) (by simp)
    simp only [List.drop_zero, List.nil_append] at h
    refine Ev.succ (fun k => ?_) h
    simp only [interchangeref13_Down.f, interchangeref13_Down.j0]
    rw [if_neg c1, decide_eq_false (show ¬ c ≥ (M.length : Int) from c2), if_neg (by decide)]
    simp only [Option.bind_some, List.length_nil, List.nil_append]
    rw [if_pos (by omega), if_pos (by omega), if_pos (by omega)]
    rfl
  · unfold outL
    refine Nat.le_trans (List.length_filter_le _ _) ?_
    rw [List.length_map]
    exact Nat.le_trans (List.length_filter_le _ _) hL
/-! The same numbers. -/
theorem Ints_l0 (l : List Int) (hl : l.length ≤ 200) : ∀ (r i : Nat), i + r = l.length → Ev (fun k => interchangeref05_Ints.l0 k l l i) true
  | 0, i, hi => Ev.succ (h := fun _ => some true) (fun k => by simp only [interchangeref05_Ints.l0]; rw [if_neg (by omega)]) (Ev.const _)
  | r + 1, i, hi => by
    refine Ev.succ (fun k => ?_) (Ints_l0 l hl r (i + 1) (by omega))
    conv => lhs; unfold interchangeref05_Ints.l0
    rw [if_pos (by omega), if_pos (by omega), if_pos (by omega), if_pos rfl, w64 (n := i) (N := l.length) (by omega) (by omega)]
theorem Ints_ev (l : List Int) (hl : l.length ≤ 200) : Ev (fun k => interchangeref05_Ints.f k l l) true :=
  Ev.congr (h := fun k => interchangeref05_Ints.l0 k l l (0 : Nat)) (fun k => by unfold interchangeref05_Ints.f; rw [if_pos rfl]; rfl) (Ints_l0 l hl l.length 0 (by omega))

theorem Acts_core (M : List Int) (L : List S29) (c ch who n : Int) (hL : L.length ≤ 4398046511000) (hw : ∀ s ∈ L, (Lit.int .i64 s.f3).wf = true) : ∃ k, interchangelaw13_PoolActs.f k M L c ch who n = some true := by
  have hL' : L.length ≤ 4611686018427387904 := by omega
  obtain ⟨v1, h1⟩ := pool_Right_some (M := M) hL hw
  have hv1 := pool_Right_val h1
  obtain ⟨v2, h2, hv2⟩ := Right_ev M L hL'
  obtain rfl : v1 = v2 := Bool.eq_iff_iff.2 (hv1.trans hv2.symm)
  obtain ⟨m, hm, n1, n2⟩ := New_same n
  refine Ev.run (g := fun k => interchangelaw13_PoolActs.f k M L c ch who n) (Ev.bind shown_ev ?_)
  rw [h1]
  simp only [Option.bind_some]
  refine Ev.bind h2 ?_
  simp only [bne_self_eq_false, Bool.false_eq_true, if_false]
  rw [n1, n2]
  simp only [Option.bind_some]
  refine Ev.bind (Same_ev (List.replicate m 0) [] (by simp; omega) (by simp)) ?_
  refine Ev.succ (g := fun k => interchangelaw13_PoolActs.j0 k c ch who n true (!true) M L) (fun k => by
    conv => lhs; unfold interchangelaw13_PoolActs.j0) ?_
  simp only [Bool.not_true, Bool.false_eq_true, if_false]
  obtain ⟨v, hv, hvv⟩ := few_ev M L hL'
  refine Ev.bind hv ?_
  cases v with
  | false => exact Ev.pure (fun k => by simp)
  | true =>
    obtain ⟨hr, hl⟩ := hvv rfl
    have hR := RightL.of hr
    have hM := hR.len
    obtain rfl : v1 = true := hv1.2 hr
    simp only [if_true]
    obtain ⟨u, u1, u2, u3, u4⟩ := Up_same hM hl c n
    obtain ⟨d, d1, d2, d3, d4, d5⟩ := Down_same hM hl c
    obtain ⟨e, e1, e2, e3⟩ : ∃ e : List Int × List S29 × Int × Int × Int × Int × Int, pool_Lease.f M L who = some e ∧ e.1.length ≤ 64 ∧ e.2.1.length ≤ 201 := by
      rcases Lease_cases hR (by omega) who with ⟨_, q⟩ | ⟨_, _, q⟩ | ⟨_, _, _, q⟩ | ⟨_, _, b, _, _, _, _, q⟩
      · exact ⟨_, q, hM, by show L.length ≤ 201; omega⟩
      · exact ⟨_, q, hM, by show L.length ≤ 201; omega⟩
      · exact ⟨_, q, hM, by show L.length ≤ 201; omega⟩
      · exact ⟨_, q, hM, by show (insL _ L).length ≤ 201; rw [insL_length]; omega⟩
    have e4 : ∀ k, interchangeref13_Lease.f k M L who = some e := fun k => by unfold interchangeref13_Lease.f; rw [if_pos ⟨h1, hl⟩, e1]
    rw [d1, e1, At_eq]
    simp only [e4, Option.bind_some]
    refine Ev.bind u1 (Ev.bind u2 (Ev.bind d2 (Ev.bind (refAt_ev M L c ch hL') ?_)))
    simp only [beq_self_eq_true, Bool.and_self, if_true]
    refine Ev.bind (Same_ev u.1 u.2.1 (by omega) (by omega)) ?_
    simp only [if_true]
    refine Ev.bind (Same_ev d.1 d.2.1 (by omega) (by omega)) ?_
    simp only [if_true]
    refine Ev.bind (Same_ev e.1 e.2.1 (by omega) (by omega)) ?_
    simp only [if_true]
    refine Ev.bind (Ints_ev d.2.2 d5) ?_
    exact Ev.pure (fun k => by simp)
end Go.Proofs.Ytgiofigjnchfeaa.Q
