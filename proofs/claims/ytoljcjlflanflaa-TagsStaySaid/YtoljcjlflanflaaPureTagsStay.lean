/- TagsStay's plain law: right tags stay right; where something is refused they are as they were. -/
import Derived.Test.YtoljcjlflanflaaQ3
import Derived.Test.YtoljcjlflanflaaL15
namespace Go.Proofs.Ytoljcjlflanflaa.Pure
open Go.RowKit Go.Proofs.Ytoljcjlflanflaa.Q Go.Proofs.YtoljcjlflanflaaW.PrintWords Go.Proofs.YtoljcjlflanflaaW.PrintLast Go.Proofs.YtoljcjlflanflaaW.PrintMore
set_option linter.unusedVariables false
set_option linter.unusedSimpArgs false

theorem filt_len (p : S47 → Bool) (l : List S47) : (l.filter p).length + (l.filter fun x => !p x).length = l.length := by
  induction l with
  | nil => rfl
  | cons a l ih =>
    rw [List.filter_cons, List.filter_cons]
    cases h : p a <;> simp <;> omega

theorem TagsStay (a0_0 : Int) (w1 : (Lit.int .u64 a0_0).wf = true) (a0_1 : Int) (w2 : (Lit.int .u64 a0_1).wf = true) (l0_2 : List S47) (hb : l0_2.length * 16 ≤ 140737488351232) (hw : ∀ x ∈ l0_2, (Lit.int .u64 x.f0).wf = true ∧ (Lit.int .u64 x.f1).wf = true) (a0_3 : Int) (w3 : (Lit.int .u64 a0_3).wf = true) (a0_4 : Int) (w4 : (Lit.int .i64 a0_4).wf = true) (a0_5 : Int) (w5 : (Lit.int .u64 a0_5).wf = true) (a0_6 : Bool) : ∃ k, interchangelaw15_TagsStay.f k a0_0 a0_1 l0_2 a0_3 a0_4 a0_5 a0_6 = some true := by
  have h1 := u64_wf w1
  have h2 := u64_wf w2
  have hl : l0_2.length ≤ 8796093022000 := by omega
  have hl' : l0_2.length ≤ 9223372036854775807 := by omega
  have h3 := u64_wf w3
  obtain ⟨k, hk⟩ : ∃ k, 2 * l0_2.length + 300 < k := ⟨_, Nat.lt_succ_self _⟩
  obtain ⟨b, hr, hg⟩ := right_ok a0_0 a0_1 l0_2 hl' (k + 1) (by omega)
  refine ⟨k + 1, ?_⟩
  unfold interchangelaw15_TagsStay.f
  rw [interchangelaw15_shown_true, hr]
  simp only [Option.bind_some]
  cases b
  · simp
  rw [if_pos rfl]
  obtain ⟨g1, g2, g3⟩ := hg.1 rfl
  -- what is delivered
  have hD : ∃ r1 r2 r3 r4 r5, tags_Deliver.f a0_0 a0_1 l0_2 a0_3 a0_4 = some (r1, r2, r3, r4, r5) ∧ (r5 ≠ 0 → r1 = a0_0 ∧ r2 = a0_1 ∧ r3 = l0_2) ∧ interchangeref15_Right.f k r1 r2 r3 = some true := by
    have hsame : interchangeref15_Right.f k a0_0 a0_1 l0_2 = some true := right_true a0_0 a0_1 l0_2 hl' k (by omega) g1 ⟨g2, g3⟩
    unfold tags_Deliver.f
    by_cases d1 : a0_3 ≤ a0_1
    · rw [if_pos d1]; exact ⟨_, _, _, _, _, rfl, fun _ => ⟨rfl, rfl, rfl⟩, hsame⟩
    rw [if_neg d1]
    by_cases d2 : a0_0 = 18446744073709551615
    · rw [if_pos d2]; exact ⟨_, _, _, _, _, rfl, fun _ => ⟨rfl, rfl, rfl⟩, hsame⟩
    rw [if_neg d2]
    by_cases d3 : a0_4 ≤ (l0_2.length : Int)
    · rw [if_pos d3]; exact ⟨_, _, _, _, _, rfl, fun _ => ⟨rfl, rfl, rfl⟩, hsame⟩
    rw [if_neg d3, if_pos hl]
    have hw0 : IntKind.u64.wrap (a0_0 + 1) = a0_0 + 1 := by rw [u64_wrap]; omega
    refine ⟨_, _, _, _, _, rfl, fun h => absurd rfl h, ?_⟩
    rw [hw0]
    refine right_true _ _ _ (by simp; omega) k (by simp; omega) (by omega) ⟨fun x hx => ?_, ?_⟩
    · rcases List.mem_append.1 hx with h | h
      · have := g2 x h; omega
      · rw [List.mem_singleton] at h; subst h; simp only; omega
    · rw [List.pairwise_append]
      refine ⟨g3, List.pairwise_singleton _ _, fun a ha b hb => ?_⟩
      rw [List.mem_singleton] at hb
      subst hb
      have := g2 a ha
      simp only
      omega
  -- what is settled
  have hS : ∃ t3 t4 t5, tags_Settle.f a0_0 a0_1 l0_2 a0_5 a0_6 = some (a0_0, a0_1, t3, t4, t5) ∧ (t5 ≠ 0 → t3 = l0_2 ∧ t4 = []) ∧ interchangeref15_Right.f k a0_0 a0_1 t3 = some true ∧ (t5 = 0 → 1 ≤ t4.length ∧ t4.length + t3.length = l0_2.length) := by
    rcases settle_cases a0_0 a0_1 l0_2 a0_5 a0_6 g3 hl with ⟨h, _⟩ | ⟨p, h, hp⟩
    · exact ⟨_, _, _, h, fun _ => ⟨rfl, rfl⟩, right_true a0_0 a0_1 l0_2 hl' k (by omega) g1 ⟨g2, g3⟩, fun h => by cases h⟩
    · have hKl : (l0_2.filter fun x => !p x).length ≤ l0_2.length := List.length_filter_le _ _
      refine ⟨_, _, _, h, fun h => absurd rfl h, right_true a0_0 a0_1 _ (by omega) k (by omega) g1 (GL.filter ⟨g2, g3⟩ _), fun _ => ⟨?_, ?_⟩⟩
      · rw [List.length_map]
        have hx : ∃ x ∈ l0_2, p x = true := by
          rcases hp with ⟨_, _, hne, hp⟩ | ⟨_, ⟨x, hx, he⟩, hp⟩
          · cases l0_2 with
            | nil => exact absurd rfl hne
            | cons x l => exact ⟨x, List.mem_cons_self, hp x⟩
          · exact ⟨x, hx, by rw [hp]; simp [he]⟩
        obtain ⟨x, hx, hpx⟩ := hx
        exact List.length_pos_of_mem (List.mem_filter.2 ⟨hx, hpx⟩)
      · rw [List.length_map]
        exact filt_len p l0_2
  obtain ⟨r1, r2, r3, r4, r5, hD, hD1, hD2⟩ := hD
  obtain ⟨t3, t4, t5, hS, hS1, hS2, hS3⟩ := hS
  rw [hD, hS]
  simp only [Option.bind_some]
  have fin : interchangelaw15_TagsStay.j0 (k + 1) true t4 t5 false a0_0 a0_1 l0_2 r1 r2 r3 a0_0 a0_1 t3 = some true := by
    simp only [interchangelaw15_TagsStay.j0]
    rw [if_neg (by simp), if_pos trivial, hD2]
    simp only [Option.bind_some, if_true]
    rw [hS2]
    simp only [Option.bind_some, if_true]
    by_cases c : t5 = 0
    · obtain ⟨c1, c2⟩ := hS3 c
      rw [if_pos c, if_pos (by omega)]
      have : wrap64 ((l0_2.length : Int) - (t4.length : Int)) = (t3.length : Int) := by unfold wrap64; omega
      rw [this]
      simp
    · rw [if_neg c]
  have hSr : ∀ x : Bool → Option Bool, t5 ≠ 0 → (interchangeref15_Same.f (k + 1) a0_0 a0_1 t3 a0_0 a0_1 l0_2).bind x = x true := by
    intro x hx
    obtain ⟨rfl, rfl⟩ := hS1 hx
    rw [same_refl a0_0 a0_1 t3 hl' (k + 1) (by omega)]
    rfl
  have hDr : ∀ x : Bool → Option Bool, r5 ≠ 0 → (interchangeref15_Same.f (k + 1) r1 r2 r3 a0_0 a0_1 l0_2).bind x = x true := by
    intro x hx
    obtain ⟨rfl, rfl, rfl⟩ := hD1 hx
    rw [same_refl r1 r2 r3 hl' (k + 1) (by omega)]
    rfl
  by_cases c5 : t5 = 0
  · by_cases d5 : r5 = 0
    · rw [if_pos d5, if_pos c5]; exact fin
    · rw [if_neg d5, hDr _ d5, if_pos rfl, if_pos c5]; exact fin
  · have ht4 : (t4.length : Int) = 0 := by rw [(hS1 c5).2]; rfl
    have hdec : decide ((t4.length : Int) > 0) = false := by rw [ht4]; rfl
    by_cases d5 : r5 = 0
    · rw [if_pos d5, if_neg c5, hSr _ c5, if_pos rfl, hdec]; exact fin
    · rw [if_neg d5, hDr _ d5, if_pos rfl, if_neg c5, hSr _ c5, if_pos rfl, hdec]; exact fin

end Go.Proofs.Ytoljcjlflanflaa.Pure
