/- SeqMany's plain law: confirmed up to a number, just those up to it are told, in order; confirmed one by one it comes to the same. -/
import Derived.Test.YtngbkagamhakiaaQ7
import Derived.Test.YtngbkagamhakiaaL16
namespace Go.Proofs.Ytngbkagamhakiaa.Pure
open Go.RowKit Go.Proofs.Ytngbkagamhakiaa.Q Go.Proofs.YtngbkagamhakiaaW.PrintWords Go.Proofs.YtngbkagamhakiaaW.PrintLast Go.Proofs.YtngbkagamhakiaaW.PrintMore
set_option linter.unusedVariables false
set_option linter.unusedSimpArgs false

theorem filter_none_of {a : Int} {l : List Int} (h : ∀ x ∈ l, x ≠ a) : (l.filter fun x => x == a) = [] := by
  rw [List.filter_eq_nil_iff]
  intro x hx
  simpa using h x hx
theorem filter_all_of {a : Int} {l : List Int} (h : ∀ x ∈ l, x ≠ a) : (l.filter fun x => !(x == a)) = l := by
  rw [List.filter_eq_self]
  intro x hx
  simpa using h x hx

theorem many_l0 (up nx off : Int) (p : Int → Bool) (L : List Int) (h2 : 0 ≤ off) (g1 : 1 ≤ nx) (g2 : nx + off ≤ 18446744073709551615) (g3 : ∀ x ∈ L, 1 ≤ x ∧ x < nx) (g4 : L.Pairwise (· < ·)) (hl : L.length ≤ 100)
    (hup : 0 ≤ up ∧ up ≤ 18446744073709551615) (hp : (up = 0 ∧ ∀ n, p n = true) ∨ (up ≠ 0 ∧ ∀ n, p n = (n == up - off || decide (n < up - off)))) :
    ∀ (B A : List Int) (k : Nat), L = A ++ B → 2 * B.length + L.length + 2 < k →
    interchangelaw16_SeqMany.l0 k up true (L.filter p) (A.filter p) (A.length : Int) true nx off L true nx off (L.filter fun n => !p n) true nx off ((A.filter fun n => !p n) ++ B) = some true := by
  intro B
  induction B with
  | nil =>
    intro A k hL hk
    obtain ⟨k, rfl⟩ : ∃ m, k = m + 1 := ⟨k - 1, by omega⟩
    rw [List.append_nil] at hL
    subst hL
    simp only [interchangelaw16_SeqMany.l0]
    have h1 : (L.filter p).length ≤ L.length := List.length_filter_le _ _
    have h3 : (L.filter fun n => !p n).length ≤ L.length := List.length_filter_le _ _
    rw [if_neg (by omega), nums_ok (L.filter p) (L.filter p) (by omega) k (by omega), List.append_nil, same_refl true nx off _ (by omega) k (by omega)]
    simp
  | cons a B ih =>
    intro A k hL hk
    obtain ⟨k, rfl⟩ : ∃ m, k = m + 1 + 1 := ⟨k - 2, by omega⟩
    rw [List.length_cons] at hk
    have hlen : A.length < L.length := by rw [hL]; simp
    have hat : L[A.length] = a := by
      have : L[A.length]? = some a := by rw [hL]; simp
      rw [List.getElem?_eq_getElem hlen] at this
      exact Option.some.inj this
    have haL : a ∈ L := by rw [hL]; simp
    have ha := g3 a haL
    have hpw := g4
    rw [hL, List.pairwise_append, List.pairwise_cons] at hpw
    have hwr : IntKind.u64.wrap (a + off) = a + off := by rw [u64_wrap]; omega
    have hnext := ih (A ++ [a]) k (by rw [hL]; simp) (by omega)
    have hAB : ∀ x ∈ (A.filter fun n => !p n), x ≠ a := fun x hx => by
      have := hpw.2.2 x (List.mem_filter.1 hx).1 a List.mem_cons_self
      omega
    have hBa : ∀ x ∈ B, x ≠ a := fun x hx => by
      have := hpw.2.1.1 x hx
      omega
    have hrd : rd L (A.length : Int) = a := by rw [rd_nat L A.length hlen, hat]
    have hwn : wrap64 ((A.length : Int) + 1) = ((A ++ [a]).length : Int) := by rw [wrap_nat hlen (by omega)]; simp
    simp only [interchangelaw16_SeqMany.l0]
    rw [if_pos (by omega)]
    -- whether it is skipped
    have hskip : ∀ (sk : Bool), (sk = !p a) → interchangelaw16_SeqMany.j2 (k + 1) up true (L.filter p) (A.filter p) (A.length : Int) sk true nx off L true nx off (L.filter fun n => !p n) true nx off ((A.filter fun n => !p n) ++ a :: B) = some true := by
      intro sk hsk
      cases hpa : p a
      · rw [hpa] at hsk
        subst hsk
        simp only [interchangelaw16_SeqMany.j2]
        rw [hwn]
        have e1 : (A ++ [a]).filter p = A.filter p := by simp [hpa]
        have e2 : ((A ++ [a]).filter fun n => !p n) ++ B = (A.filter fun n => !p n) ++ a :: B := by simp [hpa]
        rw [e1, e2] at hnext
        simpa using hnext
      · rw [hpa] at hsk
        subst hsk
        simp only [interchangelaw16_SeqMany.j2]
        rw [if_neg (by simp), if_pos (by omega), if_pos (by omega), hrd, hwr, hwn]
        have hsub : ∀ x ∈ (A.filter fun n => !p n) ++ a :: B, x ∈ L := by
          intro x hx
          rw [hL]
          rcases List.mem_append.1 hx with h | h
          · exact List.mem_append_left _ (List.mem_filter.1 h).1
          · exact List.mem_append_right _ h
        have hlN : ((A.filter fun n => !p n) ++ a :: B).length ≤ L.length := by
          rw [hL, List.length_append, List.length_append]
          have : (A.filter fun n => !p n).length ≤ A.length := List.length_filter_le _ _
          omega
        have hGN : Q.Good true nx off ((A.filter fun n => !p n) ++ a :: B) := by
          refine .inr ⟨rfl, g1, g2, fun x hx => g3 x (hsub x hx), ?_⟩
          rw [List.pairwise_append]
          refine ⟨hpw.1.filter _, ?_, fun x hx y hy => hpw.2.2 x (List.mem_filter.1 hx).1 y hy⟩
          rw [List.pairwise_cons]
          exact hpw.2.1
        rcases confirm_cases true nx off ((A.filter fun n => !p n) ++ a :: B) (a + off) false hGN h2 (by omega) (by omega) with ⟨_, _, h⟩ | ⟨q, h, hq⟩
        · exact absurd (show a + off - off ∈ _ by rw [show a + off - off = a by omega]; simp) h
        rcases hq with ⟨h0, _⟩ | ⟨_, _, _, _, hq⟩
        · cases h0
        have hq' : q = fun x => x == a := by
          funext x
          rw [hq, show a + off - off = a by omega]
          simp
        subst hq'
        rw [h]
        simp only [Option.bind_some, if_true]
        have e1 : (((A.filter fun n => !p n) ++ a :: B).filter fun x => x == a) = [a] := by
          rw [List.filter_append, filter_none_of hAB, List.filter_cons, if_pos (by simp), filter_none_of hBa]
          rfl
        have e2 : (((A.filter fun n => !p n) ++ a :: B).filter fun x => !(x == a)) = (A.filter fun n => !p n) ++ B := by
          rw [List.filter_append, filter_all_of hAB, List.filter_cons, if_neg (by simp), filter_all_of hBa]
        have hlA : (A.filter p).length ≤ A.length := List.length_filter_le _ _
        rw [e1, e2, if_pos (by rw [List.length_singleton]; omega)]
        have e3 : (A ++ [a]).filter p = A.filter p ++ [a] := by simp [hpa]
        have e4 : ((A ++ [a]).filter fun n => !p n) ++ B = (A.filter fun n => !p n) ++ B := by simp [hpa]
        rw [e3, e4] at hnext
        exact hnext
    rcases hp with ⟨h0, hall⟩ | ⟨h0, hp⟩
    · rw [if_pos h0]
      exact hskip false (by rw [hall]; rfl)
    · rw [if_neg h0, if_pos (by omega), hrd, hwr]
      refine hskip _ ?_
      rw [hp, Bool.eq_iff_iff]
      simp
      omega

theorem SeqMany (a0_0 : Bool) (a0_1 : Int) (w1 : (Lit.int .u64 a0_1).wf = true) (a0_2 : Int) (w2 : (Lit.int .u64 a0_2).wf = true) (l0_3 : List Int) (hb : l0_3.length * 8 ≤ 140737488351232) (hw : ∀ x ∈ l0_3, (Lit.int .u64 x).wf = true) (a1 : Int) (w3 : (Lit.int .u64 a1).wf = true) : ∃ k, interchangelaw16_SeqMany.f k a0_0 a0_1 a0_2 l0_3 a1 = some true := by
  have h4 := u64_wf w3
  have h1 := u64_wf w1
  have h2 := u64_wf w2
  have hl : l0_3.length ≤ 17592186044000 := by omega
  have hl' : l0_3.length ≤ 9223372036854775807 := by omega
  obtain ⟨k, hk⟩ : ∃ k, 3 * l0_3.length + 300 < k := ⟨_, Nat.lt_succ_self _⟩
  obtain ⟨b, hr, hg⟩ := right_ok a0_0 a0_1 a0_2 l0_3 h1 h2 hl' (k + 1) (by omega)
  refine ⟨k + 1, ?_⟩
  unfold interchangelaw16_SeqMany.f
  rw [interchangelaw16_shown_true, hr]
  simp only [Option.bind_some]
  cases b
  · simp [interchangelaw16_SeqMany.j0]
  rw [if_pos rfl]
  have hG := hg rfl
  simp only [interchangelaw16_SeqMany.j0]
  by_cases c0 : (l0_3.length : Int) > 100
  · simp [c0]
  rw [if_neg (by simpa using c0)]
  rcases confirm_cases a0_0 a0_1 a0_2 l0_3 a1 true hG h2.1 h4 hl with ⟨hc, _, _⟩ | ⟨p, hc, hp⟩
  · rw [hc]
    simp
  rw [hc]
  simp only [Option.bind_some, if_true]
  rcases hG with ⟨rfl, rfl, rfl, rfl⟩ | ⟨rfl, g1, g2, g3, g4⟩
  · obtain ⟨k, rfl⟩ : ∃ m, k = m + 1 := ⟨k - 1, by omega⟩
    simp only [interchangelaw16_SeqMany.l0]
    rw [if_neg (by simp)]
    have hk2 : 0 < k := by simp at hk; omega
    rw [show List.filter p [] = [] from rfl, show (List.filter (fun n => !p n) []) = [] from rfl, nums_ok [] [] (by simp) k hk2, same_refl false 0 0 [] (by simp) k hk2]
    simp
  · have hp' : (a1 = 0 ∧ ∀ n, p n = true) ∨ (a1 ≠ 0 ∧ ∀ n, p n = (n == a1 - a0_2 || decide (n < a1 - a0_2))) := by
      rcases hp with ⟨_, h0, hall⟩ | ⟨hna, _, _, _, hp⟩
      · exact .inl ⟨h0, hall⟩
      · exact .inr ⟨fun e => hna ⟨rfl, e⟩, fun n => by rw [hp]; simp⟩
    have := many_l0 a1 a0_1 a0_2 p l0_3 h2.1 g1 g2 g3 g4 (by omega) h4 hp' l0_3 [] k rfl (by omega)
    simpa using this

end Go.Proofs.Ytngbkagamhakiaa.Pure
