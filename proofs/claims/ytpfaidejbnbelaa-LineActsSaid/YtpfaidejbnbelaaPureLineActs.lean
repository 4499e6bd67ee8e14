/- LineActs's plain law: who is added, first, dropped, served, and where, is as the document says. -/
import Derived.Test.YtpfaidejbnbelaaQ6
import Derived.Test.YtpfaidejbnbelaaL13
namespace Go.Proofs.Ytpfaidejbnbelaa.Pure
open Go.RowKit Go.Proofs.Ytpfaidejbnbelaa.Q Go.Proofs.YtpfaidejbnbelaaW.PrintWords Go.Proofs.YtpfaidejbnbelaaW.PrintLast Go.Proofs.YtpfaidejbnbelaaW.PrintMore
set_option linter.unusedVariables false
set_option linter.unusedSimpArgs false

theorem refat_l0 (l : List Int) (a : Int) (hn : l.length ≤ 9223372036854775807) (d : Nat) : ∀ (k n : Nat), n ≤ l.length → l.length - n = d → d < k →
    interchangeref14_At.l0 k l a (n : Int) = some (if a ∈ l.drop n then ((n + (l.drop n).idxOf a : Nat) : Int) else -1) := by
  induction d with
  | zero =>
    intro k n h1 hd hk
    obtain ⟨k, rfl⟩ : ∃ m, k = m + 1 := ⟨k - 1, by omega⟩
    have : n = l.length := by omega
    subst this
    simp only [interchangeref14_At.l0]
    rw [if_neg (by omega)]
    simp
  | succ d ih =>
    intro k n h1 hd hk
    obtain ⟨k, rfl⟩ : ∃ m, k = m + 1 := ⟨k - 1, by omega⟩
    have hlt : n < l.length := by omega
    have hdr : l.drop n = l[n] :: l.drop (n + 1) := List.drop_eq_getElem_cons hlt
    simp only [interchangeref14_At.l0]
    rw [if_pos (by omega), if_pos (by omega), rd_nat l n hlt, wrap_nat hlt hn, hdr]
    have ih' := ih k (n + 1) (by omega) (by omega) (by omega)
    generalize l[n] = y
    generalize l.drop (n + 1) = t at ih' ⊢
    by_cases e : y = a
    · subst e
      simp
    · rw [if_neg e, ih']
      have e' : (y == a) = false := by simp; exact e
      have e2 : ¬ (a = y) := fun h => e h.symm
      simp only [List.mem_cons, e2, false_or, List.idxOf_cons, e', cond_false]
      split
      · congr 1; omega
      · rfl
theorem refat_f (l : List Int) (a : Int) (hn : l.length ≤ 9223372036854775807) (k : Nat) (hk : l.length < k) : interchangeref14_At.f k l a = some (idx l a) := by
  unfold interchangeref14_At.f
  have h := refat_l0 l a hn l.length k 0 (by omega) (by omega) hk
  rw [Int.natCast_zero] at h
  rw [h]
  simp [idx]
theorem refdrop_l0 (l : List Int) (a : Int) (hn : l.length ≤ 17592186043904) (d : Nat) : ∀ (k n : Nat) (out : List Int), n ≤ l.length → l.length - n = d → d < k → out.length ≤ n →
    interchangeref14_Drop.l0 k l a out (n : Int) = some (out ++ (l.drop n).filter (fun x => !(x == a)), (((out ++ (l.drop n).filter (fun x => !(x == a))).length : Int) != (l.length : Int))) := by
  induction d with
  | zero =>
    intro k n out h1 hd hk ho
    obtain ⟨k, rfl⟩ : ∃ m, k = m + 1 := ⟨k - 1, by omega⟩
    have : n = l.length := by omega
    subst this
    simp only [interchangeref14_Drop.l0]
    rw [if_neg (by omega)]
    simp
  | succ d ih =>
    intro k n out h1 hd hk ho
    obtain ⟨k, rfl⟩ : ∃ m, k = m + 1 := ⟨k - 1, by omega⟩
    have hlt : n < l.length := by omega
    have hdr : l.drop n = l[n] :: l.drop (n + 1) := List.drop_eq_getElem_cons hlt
    simp only [interchangeref14_Drop.l0]
    rw [if_pos (by omega), if_pos (by omega), rd_nat l n hlt, wrap_nat hlt (by omega), hdr]
    by_cases e : l[n] = a
    · rw [if_pos e, ih k (n + 1) out (by omega) (by omega) (by omega) (by omega)]
      have hz : ((l[n] :: l.drop (n + 1)).filter fun x => !(x == a)) = (l.drop (n + 1)).filter fun x => !(x == a) := by rw [List.filter_cons, if_neg (by simp [e])]
      rw [hz]
    · rw [if_neg e, if_pos (by omega), ih k (n + 1) (out ++ [l[n]]) (by omega) (by omega) (by omega) (by rw [List.length_append, List.length_singleton]; omega)]
      have hz : ((l[n] :: l.drop (n + 1)).filter fun x => !(x == a)) = l[n] :: ((l.drop (n + 1)).filter fun x => !(x == a)) := by rw [List.filter_cons, if_pos (by simp [e])]
      rw [hz, List.append_assoc, List.singleton_append]
theorem refdrop_f (l : List Int) (a : Int) (hn : l.length ≤ 17592186043904) (k : Nat) (hk : l.length < k) : interchangeref14_Drop.f k l a = some (l.filter (fun x => !(x == a)), decide ((l.filter (fun x => !(x == a))).length < l.length)) := by
  unfold interchangeref14_Drop.f
  have h := refdrop_l0 l a hn l.length k 0 [] (by omega) (by omega) hk (by simp)
  rw [Int.natCast_zero] at h
  rw [h]
  have hf := List.length_filter_le (fun x => !(x == a)) l
  simp only [List.drop_zero, List.nil_append, Option.some.injEq, Prod.mk.injEq, true_and]
  rw [Bool.eq_iff_iff, bne_iff_ne, decide_eq_true_eq]
  omega
theorem refserve_l0 (l : List Int) (a : Int) (hn : l.length ≤ 17592186043904) (d : Nat) : ∀ (k n : Nat), n ≤ l.length → l.length - n = d → d < k →
    interchangeref14_Serve.l0 k l a ((l.take n).take a.toNat) ((l.take n).drop a.toNat) (n : Int) = some (l.take a.toNat, l.drop a.toNat) := by
  induction d with
  | zero =>
    intro k n h1 hd hk
    obtain ⟨k, rfl⟩ : ∃ m, k = m + 1 := ⟨k - 1, by omega⟩
    have : n = l.length := by omega
    subst this
    simp only [interchangeref14_Serve.l0]
    rw [if_neg (by omega), List.take_length]
  | succ d ih =>
    intro k n h1 hd hk
    obtain ⟨k, rfl⟩ : ∃ m, k = m + 1 := ⟨k - 1, by omega⟩
    have hlt : n < l.length := by omega
    have ih' := ih k (n + 1) (by omega) (by omega) (by omega)
    have hl2 : (l.take n).length = n := by rw [List.length_take]; omega
    have hl1 : ((l.take n).take a.toNat).length ≤ n := by rw [List.length_take, hl2]; omega
    have hl3 : ((l.take n).drop a.toNat).length = n - a.toNat := by rw [List.length_drop, hl2]
    simp only [interchangeref14_Serve.l0]
    rw [List.take_succ_eq_append_getElem hlt] at ih'
    rw [if_pos (by omega), rd_nat l n hlt, wrap_nat hlt (by omega)]
    by_cases c : (n : Int) < a
    · rw [if_pos c, if_pos (by omega), if_pos (by omega)]
      rw [List.take_of_length_le (by rw [List.length_append, hl2, List.length_singleton]; omega), List.drop_eq_nil_of_le (by rw [List.length_append, hl2, List.length_singleton]; omega)] at ih'
      rw [List.take_of_length_le (by omega), List.drop_eq_nil_of_le (by omega)]
      exact ih'
    · rw [if_neg c, if_pos (by omega), if_pos (by omega)]
      rw [List.take_append_of_le_length (by omega), List.drop_append_of_le_length (by omega)] at ih'
      exact ih'
theorem refserve_f (l : List Int) (a : Int) (hn : l.length ≤ 17592186043904) (k : Nat) (hk : l.length < k) : interchangeref14_Serve.f k l a = some (l.take a.toNat, l.drop a.toNat) := by
  unfold interchangeref14_Serve.f
  have h := refserve_l0 l a hn l.length k 0 (by omega) (by omega) hk
  rw [Int.natCast_zero] at h
  simpa using h
theorem refadd_f (l : List Int) (a m : Int) (hn : l.length ≤ 17592186043904) (k : Nat) (hk : l.length < k) : interchangeref14_Add.f k l a m = line_Add.f l a m := by
  unfold interchangeref14_Add.f line_Add.f
  rw [refat_f l a (by omega) k hk]
  simp only [Option.bind_some, List.nil_append, List.length_nil, Nat.zero_add]
  by_cases c1 : a < 1
  · rw [if_pos c1, if_pos c1]
  · rw [if_neg c1, if_neg c1]
    by_cases c2 : 0 ≤ idx l a
    · rw [if_pos c2, if_pos c2]
    · rw [if_neg c2, if_neg c2]
      by_cases c3 : mn (mx m 0) 1000 ≤ (l.length : Int)
      · rw [if_pos c3]
        have : (l.length : Int) ≥ m ∨ (l.length : Int) ≥ 1000 := by
          unfold mn mx at c3
          split at c3 <;> split at c3 <;> omega
        rcases this with h | h
        · rw [if_pos h]
        · by_cases h2 : (l.length : Int) ≥ m
          · rw [if_pos h2]
          · rw [if_neg h2, if_pos h]
      · have : ¬ ((l.length : Int) ≥ m) ∧ ¬ ((l.length : Int) ≥ 1000) := by
          unfold mn mx at c3
          split at c3 <;> split at c3 <;> omega
        rw [if_neg c3, if_neg this.1, if_neg this.2, if_pos (by omega), if_pos (by omega)]

theorem LineActs (l : List Int) (h8 : l.length * 8 ≤ 140737488351232) (hw : ∀ x ∈ l, (Lit.int .i64 x).wf = true) (a : Int) (wa : (Lit.int .i64 a).wf = true) (m : Int) (wm : (Lit.int .i64 m).wf = true) (n : Int) (wn : (Lit.int .i64 n).wf = true) : ∃ k, interchangelaw14_LineActs.f k l a m n = some true := by
  refine ⟨l.length + 2, ?_⟩
  have hx : ∃ x : List Int × Int, line_Add.f l a m = some x ∧ x.1.length ≤ l.length + 1 := by
    unfold line_Add.f
    refine ⟨_, rfl, ?_⟩
    repeat' split
    all_goals simp
  obtain ⟨x, hx, hxl⟩ := hx
  have hy : ∃ y : Int × List Int × Bool, line_First.f l = some y ∧ interchangeref14_First.f l = some y ∧ y.2.1.length ≤ l.length := by
    unfold line_First.f interchangeref14_First.f
    rw [if_pos (by omega)]
    refine ⟨_, rfl, rfl, ?_⟩
    cases l <;> simp
  obtain ⟨y, hy1, hy2, hyl⟩ := hy
  have hf := List.length_filter_le (fun x => !(x == a)) l
  have ht := List.length_take_le' n.toNat l
  have hd : (l.drop n.toNat).length ≤ l.length := by rw [List.length_drop]; omega
  unfold interchangelaw14_LineActs.f
  rw [shown_true, refadd_f l a m (by omega) _ (by omega), hx, hy1, hy2, refdrop_f l a (by omega) _ (by omega), refserve_f l n (by omega) _ (by omega), at_idx l a (by omega) _ (by omega), refat_f l a (by omega) _ (by omega)]
  unfold line_Drop.f line_Serve.f
  rw [if_pos (by omega), if_pos (by omega)]
  simp only [Option.bind_some]
  rw [ints_f _ _ (by omega) _ (by omega), ints_f _ _ (by omega) _ (by omega), ints_f _ _ (by omega) _ (by omega), ints_f _ _ (by omega) _ (by omega), ints_f _ _ (by omega) _ (by omega)]
  simp
end Go.Proofs.Ytpfaidejbnbelaa.Pure
