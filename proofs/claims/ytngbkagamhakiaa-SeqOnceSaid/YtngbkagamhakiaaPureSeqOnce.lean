/- SeqOnce's plain law: what was confirmed isn't confirmed again; what wasn't is, still. -/
import Derived.Test.YtngbkagamhakiaaQ4
import Derived.Test.YtngbkagamhakiaaL16
namespace Go.Proofs.Ytngbkagamhakiaa.Pure
open Go.RowKit Go.Proofs.Ytngbkagamhakiaa.Q Go.Proofs.YtngbkagamhakiaaW.PrintWords Go.Proofs.YtngbkagamhakiaaW.PrintLast Go.Proofs.YtngbkagamhakiaaW.PrintMore
set_option linter.unusedVariables false
set_option linter.unusedSimpArgs false

theorem once_l0 (off other : Int) (l : List Int) (e f g h : Int) (on : Bool) (nx : Int) (s : List Int) (hn : l.length ≤ 9223372036854775807) (hf : e = 16) (d : Nat) : ∀ (k n : Nat) (b : Bool), n ≤ l.length → l.length - n = d → d < k →
    interchangelaw16_SeqOnce.l0 k other true l e g h b (n : Int) on nx off s = some ((g == 0) == (h == 0 || (b || (l.drop n).any fun x => IntKind.u64.wrap (x + off) == other))) := by
  subst hf
  induction d with
  | zero =>
    intro k n b h1 hd hk
    obtain ⟨k, rfl⟩ : ∃ m, k = m + 1 := ⟨k - 1, by omega⟩
    obtain rfl : n = l.length := by omega
    simp only [interchangelaw16_SeqOnce.l0]
    rw [if_neg (by omega), List.drop_length]
    simp only [if_true, List.any_nil, Bool.or_false]
    by_cases c : h = 0
    · rw [if_pos c]; simp [c]
    · rw [if_neg c]; have : (h == 0) = false := by simpa using c
      rw [this, Bool.false_or]
  | succ d ih =>
    intro k n b h1 hd hk
    obtain ⟨k, rfl⟩ : ∃ m, k = m + 1 := ⟨k - 1, by omega⟩
    have hlt : n < l.length := by omega
    have hdr : l.drop n = l[n] :: l.drop (n + 1) := List.drop_eq_getElem_cons hlt
    simp only [interchangelaw16_SeqOnce.l0]
    rw [if_pos (by omega), wrap_nat hlt hn]
    cases b
    · rw [if_neg (by simp), if_pos (by omega), rd_nat l n hlt, ih k (n + 1) _ (by omega) (by omega) (by omega), hdr]
      simp only [List.any_cons, Bool.false_or]
    · rw [if_pos rfl, ih k (n + 1) _ (by omega) (by omega) (by omega)]
      simp only [Bool.true_or]

theorem SeqOnce (a0_0 : Bool) (a0_1 : Int) (w1 : (Lit.int .u64 a0_1).wf = true) (a0_2 : Int) (w2 : (Lit.int .u64 a0_2).wf = true) (l0_3 : List Int) (hb : l0_3.length * 8 ≤ 140737488351232) (hw : ∀ x ∈ l0_3, (Lit.int .u64 x).wf = true) (a0_4 : Int) (w4 : (Lit.int .u64 a0_4).wf = true) (a0_5 : Bool) (a0_6 : Int) (w6 : (Lit.int .u64 a0_6).wf = true) : ∃ k, interchangelaw16_SeqOnce.f k a0_0 a0_1 a0_2 l0_3 a0_4 a0_5 a0_6 = some true := by
  have h4 := u64_wf w4
  have h6 := u64_wf w6
  have h1 := u64_wf w1
  have h2 := u64_wf w2
  have hl : l0_3.length ≤ 17592186044000 := by omega
  have hl' : l0_3.length ≤ 9223372036854775807 := by omega
  obtain ⟨k, hk⟩ : ∃ k, l0_3.length + 300 < k := ⟨_, Nat.lt_succ_self _⟩
  obtain ⟨b, hr, hg⟩ := right_ok a0_0 a0_1 a0_2 l0_3 h1 h2 hl' (k + 1) (by omega)
  refine ⟨k + 1, ?_⟩
  unfold interchangelaw16_SeqOnce.f
  rw [interchangelaw16_shown_true, hr]
  simp only [Option.bind_some]
  cases b
  · simp
  rw [if_pos rfl]
  have hG := hg rfl
  rcases confirm_cases a0_0 a0_1 a0_2 l0_3 a0_4 a0_5 hG h2.1 h4 hl with ⟨hc, _, _⟩ | ⟨p, hc, hp⟩
  · rw [hc]
    simp [interchangelaw16_SeqOnce.j0]
  rw [hc]
  simp only [Option.bind_some, if_true, interchangelaw16_SeqOnce.j0]
  rcases hp with ⟨rfl, rfl, _⟩ | ⟨hna, rfl, hlt, hin, hp⟩
  · simp
  by_cases c0 : a0_4 = 0
  · simp [c0]
  rw [if_neg (by simpa using c0)]
  -- it is on, a0_4 - a0_2 is there
  obtain ⟨hg0, _⟩ | ⟨_, g1, g2, g3, g4⟩ := hG
  · cases hg0
  have hfl : (l0_3.filter fun n => !p n).length ≤ 17592186044000 := Nat.le_trans (List.length_filter_le _ _) hl
  have hG2 : Q.Good true a0_1 a0_2 (l0_3.filter fun n => !p n) := .inr ⟨rfl, g1, g2, fun x hx => g3 x (List.mem_filter.1 hx).1, g4.filter _⟩
  have e1 : seq_Confirm.f true a0_1 a0_2 (l0_3.filter fun n => !p n) a0_4 a0_5 = some (true, a0_1, a0_2, (l0_3.filter fun n => !p n), [], 16) := by
    rcases confirm_cases true a0_1 a0_2 (l0_3.filter fun n => !p n) a0_4 a0_5 hG2 h2.1 h4 hfl with ⟨h, _⟩ | ⟨q, h, hq⟩
    · exact h
    · rcases hq with ⟨hm, h0, _⟩ | ⟨_, _, _, hin2, _⟩
      · exact absurd h0 c0
      · have := (List.mem_filter.1 hin2).2
        rw [hp] at this
        simp at this
  rw [e1]
  simp only [Option.bind_some]
  -- the others
  have hother : ∀ (L : List Int), Q.Good true a0_1 a0_2 L → L.length ≤ 17592186044000 → ∃ r, seq_Confirm.f true a0_1 a0_2 L a0_6 false = some r ∧ (r.2.2.2.2.2 == 0) = decide (a0_6 - a0_2 ∈ L) := by
    intro L hGL hLL
    rcases confirm_cases true a0_1 a0_2 L a0_6 false hGL h2.1 h6 hLL with ⟨h, _, hni⟩ | ⟨q, h, hq⟩
    · exact ⟨_, h, by simp [hni]⟩
    · rcases hq with ⟨hm, _⟩ | ⟨_, _, _, hin2, _⟩
      · cases hm
      · exact ⟨_, h, by simp [hin2]⟩
  obtain ⟨r1, hr1, e2⟩ := hother l0_3 (.inr ⟨rfl, g1, g2, g3, g4⟩) hl
  obtain ⟨r2, hr2, e3⟩ := hother _ hG2 hfl
  rw [hr1, hr2]
  simp only [Option.bind_some]
  have hll : (l0_3.filter p).length ≤ l0_3.length := List.length_filter_le _ _
  have hloop := once_l0 a0_2 a0_6 (l0_3.filter p) 16 0 r1.2.2.2.2.2 r2.2.2.2.2.2 true a0_1 l0_3 (by omega) rfl (l0_3.filter p).length k 0 false (by omega) (by omega) (by omega)
  rw [Int.natCast_zero] at hloop
  rw [hloop, e2, e3, List.drop_zero, Bool.false_or]
  have hany : ((l0_3.filter p).any fun x => IntKind.u64.wrap (x + a0_2) == a0_6) = decide (a0_6 - a0_2 ∈ l0_3.filter p) := by
    rw [Bool.eq_iff_iff, List.any_eq_true, decide_eq_true_iff]
    constructor
    · rintro ⟨x, hx, he⟩
      have hxl := g3 x (List.mem_filter.1 hx).1
      rw [u64_wrap, beq_iff_eq, Int.emod_eq_of_lt (by omega) (by omega)] at he
      have : a0_6 - a0_2 = x := by omega
      rw [this]; exact hx
    · intro hx
      refine ⟨_, hx, ?_⟩
      have hxl := g3 _ (List.mem_filter.1 hx).1
      rw [u64_wrap, beq_iff_eq, Int.emod_eq_of_lt (by omega) (by omega)]
      omega
  rw [hany]
  congr 1
  by_cases hm : a0_6 - a0_2 ∈ l0_3
  · cases hpp : p (a0_6 - a0_2) <;> simp [hm, hpp]
  · simp [hm]

end Go.Proofs.Ytngbkagamhakiaa.Pure
