/- SeqRises's plain law: what is published has the numbers 1, 2, 3 and on; the broker's are as many more as was told. -/
import Derived.Test.YtngbkagamhakiaaQ3
import Derived.Test.YtngbkagamhakiaaL16
namespace Go.Proofs.Ytngbkagamhakiaa.Pure
open Go.RowKit Go.Proofs.Ytngbkagamhakiaa.Q Go.Proofs.YtngbkagamhakiaaW.PrintWords Go.Proofs.YtngbkagamhakiaaW.PrintLast Go.Proofs.YtngbkagamhakiaaW.PrintMore
set_option linter.unusedVariables false
set_option linter.unusedSimpArgs false

/-- 1, 2, .., n. -/
def upto (n : Nat) : List Int := (List.range n).map fun i => ((i : Nat) : Int) + 1
theorem upto_succ (n : Nat) : upto (n + 1) = upto n ++ [(n : Int) + 1] := by simp [upto, List.range_succ]
theorem upto_length (n : Nat) : (upto n).length = n := by simp [upto]
theorem mem_upto (n : Nat) (x : Int) : x ∈ upto n ↔ 1 ≤ x ∧ x ≤ n := by
  simp only [upto, List.mem_map, List.mem_range]
  constructor
  · rintro ⟨i, hi, rfl⟩; omega
  · rintro ⟨h1, h2⟩; exact ⟨x.toNat - 1, by omega, by omega⟩
theorem filter_one (n : Nat) (i : Int) (h : 1 ≤ i ∧ i ≤ n) (p : Int → Bool) (hp : ∀ x, p x = (x == i)) : (upto n).filter p = [i] := by
  induction n with
  | zero => omega
  | succ n ih =>
    rw [upto_succ, List.filter_append]
    by_cases c : i ≤ n
    · rw [ih ⟨h.1, c⟩]
      have : p ((n : Int) + 1) = false := by rw [hp]; simp; omega
      simp [this]
    · have e : i = (n : Int) + 1 := by omega
      have h0 : (upto n).filter p = [] := by
        rw [List.filter_eq_nil_iff]
        intro x hx
        have := (mem_upto n x).1 hx
        rw [hp]; simp; omega
      have h1 : p ((n : Int) + 1) = true := by rw [hp, e]; simp
      rw [h0]
      simp [h1, e]
theorem filter_le (n : Nat) (i : Int) (h : 1 ≤ i ∧ i ≤ n) (p : Int → Bool) (hp : ∀ x, p x = (x == i || decide (x < i))) : (((upto n).filter p).length : Int) = i := by
  induction n with
  | zero => omega
  | succ n ih =>
    rw [upto_succ, List.filter_append]
    by_cases c : i ≤ n
    · have : p ((n : Int) + 1) = false := by rw [hp]; simp; omega
      simp [this]
      exact ih ⟨h.1, c⟩
    · have e : i = (n : Int) + 1 := by omega
      have h0 : (upto n).filter p = upto n := by
        rw [List.filter_eq_self]
        intro x hx
        have := (mem_upto n x).1 hx
        rw [hp]; simp; omega
      have h1 : p ((n : Int) + 1) = true := by rw [hp, e]; simp
      rw [h0]
      simp [h1, upto_length]
      omega
theorem good_upto (n : Nat) (off : Int) (h0 : 0 ≤ off) (h : (n : Int) + 1 + off ≤ 18446744073709551615) : Q.Good true ((n : Int) + 1) off (upto n) := by
  refine .inr ⟨rfl, by omega, h, fun x hx => by have := (mem_upto n x).1 hx; omega, ?_⟩
  induction n with
  | zero => simp [upto]
  | succ n ih =>
    rw [upto_succ, List.pairwise_append]
    refine ⟨ih (by omega), List.pairwise_singleton _ _, fun a ha b hb => ?_⟩
    rw [List.mem_singleton] at hb
    have := (mem_upto n a).1 ha
    omega

theorem rises_l0 (off : Int) (n : Nat) (i : Int) (hof : 0 ≤ off ∧ off ≤ 9223372036854775808) (hn : n ≤ 100) (hi : -9223372036854775808 ≤ i ∧ i ≤ 9223372036854775807) (d : Nat) : ∀ (k m : Nat), m ≤ n → n - m = d → d + 1 < k →
    interchangelaw16_SeqRises.l0 k off (n : Int) i true 0 ((m : Int) + 1) true ((m : Int) + 1) off (upto m) = some true := by
  induction d with
  | zero =>
    intro k m h1 hd hk
    obtain ⟨k, rfl⟩ : ∃ q, k = q + 1 + 1 := ⟨k - 2, by omega⟩
    obtain rfl : m = n := by omega
    simp only [interchangelaw16_SeqRises.l0]
    rw [if_neg (by omega)]
    simp only [if_true]
    by_cases c1 : i < 1
    · rw [if_pos c1]; simp [interchangelaw16_SeqRises.j2]
    rw [if_neg c1]
    by_cases c2 : i > m
    · simp [interchangelaw16_SeqRises.j2, c2]
    simp only [interchangelaw16_SeqRises.j2]
    rw [if_neg (by simp; omega)]
    have e1 : IntKind.u64.wrap i = i := by rw [u64_wrap]; omega
    have e2 : IntKind.u64.wrap (off + IntKind.u64.wrap i) = off + i := by rw [e1, u64_wrap]; omega
    rw [e2, e1]
    have hG := good_upto m off hof.1 (by omega)
    have hlen := upto_length m
    have hin : off + i - off ∈ upto m := by rw [mem_upto]; omega
    rcases confirm_cases true ((m : Int) + 1) off (upto m) (off + i) false hG hof.1 (by omega) (by omega) with ⟨_, _, h⟩ | ⟨p, h, hp⟩
    · exact absurd hin h
    rcases hp with ⟨h2, _⟩ | ⟨_, _, _, _, hp⟩
    · cases h2
    rcases confirm_cases true ((m : Int) + 1) off (upto m) (off + i) true hG hof.1 (by omega) (by omega) with ⟨_, _, h2⟩ | ⟨q, h2, hq⟩
    · exact absurd hin h2
    rcases hq with ⟨_, h3, _⟩ | ⟨_, _, _, _, hq⟩
    · omega
    rw [h, h2]
    simp only [Option.bind_some, if_true]
    have f1 := filter_one m i (by omega) p (fun x => by rw [hp]; simp [show off + i - off = i by omega])
    have f2 := filter_le m i (by omega) q (fun x => by rw [hq]; simp [show off + i - off = i by omega])
    rw [f1]
    simp [rd, f2]
  | succ d ih =>
    intro k m h1 hd hk
    obtain ⟨k, rfl⟩ : ∃ q, k = q + 1 := ⟨k - 1, by omega⟩
    simp only [interchangelaw16_SeqRises.l0]
    rw [if_pos (by omega)]
    have hlen := upto_length m
    have hp : seq_Publish.f true ((m : Int) + 1) off (upto m) 500 = some (true, ((m + 1 : Nat) : Int) + 1, off, upto (m + 1), (m : Int) + 1, 0) := by
      unfold seq_Publish.f
      rw [if_pos rfl, if_neg (by rw [u64_wrap]; omega), if_neg (by omega), if_pos (by omega), u64_wrap, upto_succ]
      have e1 : ((m : Int) + 1 + 1) % 18446744073709551616 = ((m + 1 : Nat) : Int) + 1 := by omega
      rw [e1]
    rw [hp]
    simp only [Option.bind_some, if_true]
    rw [if_pos (by rw [u64_wrap]; omega)]
    have e2 : wrap64 ((m : Int) + 1 + 1) = ((m + 1 : Nat) : Int) + 1 := by unfold wrap64; omega
    rw [e2]
    exact ih k (m + 1) (by omega) (by omega) (by omega)

theorem SeqRises : interchangelaw16_SeqRises.Pure := by
  intro a0 a1 a2 w0 w1 w2
  have h0 := u64_wf w0
  have h1 := i64_wf w1
  have h2 := i64_wf w2
  obtain ⟨k, hk⟩ : ∃ k, 300 < k := ⟨_, Nat.lt_succ_self _⟩
  refine ⟨k + 1, ?_⟩
  unfold interchangelaw16_SeqRises.f
  rw [interchangelaw16_shown_true]
  simp only [Option.bind_some]
  by_cases c1 : a1 < 0
  · rw [if_pos c1]; simp [interchangelaw16_SeqRises.j0]
  rw [if_neg c1]
  by_cases c2 : a1 > 100
  · rw [if_pos c2]; simp [interchangelaw16_SeqRises.j0]
  rw [if_neg c2]
  by_cases c3 : a0 > 9223372036854775808
  · simp [interchangelaw16_SeqRises.j0, c3]
  simp only [interchangelaw16_SeqRises.j0]
  rw [if_neg (by simp; omega)]
  have hs : seq_Select.f false 0 0 [] a0 = some (true, 1, a0, [], 0) := by
    unfold seq_Select.f
    rw [if_neg (by simp), if_neg (by omega)]
  rw [hs]
  simp only [Option.bind_some]
  have := rises_l0 a0 a1.toNat a2 (by omega) (by omega) h2 a1.toNat k 0 (by omega) (by omega) (by omega)
  rw [show ((a1.toNat : Nat) : Int) = a1 by omega] at this
  exact this

end Go.Proofs.Ytngbkagamhakiaa.Pure
