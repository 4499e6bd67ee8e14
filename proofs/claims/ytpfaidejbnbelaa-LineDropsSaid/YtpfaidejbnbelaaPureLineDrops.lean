/- LineDrops's plain law: who is dropped isn't there any more; all others' order is as it was. -/
import Derived.Test.YtpfaidejbnbelaaQ3
import Derived.Test.YtpfaidejbnbelaaL13
namespace Go.Proofs.Ytpfaidejbnbelaa.Pure
open Go.RowKit Go.Proofs.Ytpfaidejbnbelaa.Q Go.Proofs.YtpfaidejbnbelaaW.PrintWords Go.Proofs.YtpfaidejbnbelaaW.PrintLast Go.Proofs.YtpfaidejbnbelaaW.PrintMore
set_option linter.unusedVariables false
set_option linter.unusedSimpArgs false

theorem filter_lt (l : List Int) (a : Int) : (decide ((l.filter (fun x => !(x == a))).length < l.length)) = decide (a ∈ l) := by
  rw [decide_eq_decide]
  induction l with
  | nil => simp
  | cons x r ih =>
    by_cases e : x = a
    · subst e
      have := List.length_filter_le (fun y => !(y == x)) r
      simp
      omega
    · have : (!(x == a)) = true := by simp [e]
      rw [List.filter_cons, if_pos this]
      simp only [List.length_cons, List.mem_cons]
      rw [show ((r.filter (fun x => !(x == a))).length + 1 < r.length + 1) ↔ (r.filter (fun x => !(x == a))).length < r.length by omega, ih]
      constructor
      · exact fun h => .inr h
      · rintro (h | h)
        · exact absurd h.symm e
        · exact h

theorem drops_end (l : List Int) (who other : Int) (hl : l.length ≤ 9223372036854775807) (k : Nat) (hk : l.length < k) :
    ((line_At.f k l who).bind fun t128 => (if ((decide ((l.filter (fun x => !(x == who))).length < l.length)) == (decide (t128 ≥ 0))) = true then ((line_At.f k (l.filter (fun x => !(x == who))) who).bind fun t129 => (if t129 = (-1) then (if other = who then (some true) else ((line_At.f k (l.filter (fun x => !(x == who))) other).bind fun t130 => ((line_At.f k l other).bind fun t131 => (some ((decide (t130 ≥ 0)) == (decide (t131 ≥ 0))))))) else (some false))) else (some false))) = some true := by
  have hf := List.length_filter_le (fun x => !(x == who)) l
  rw [at_idx l who hl k hk, at_idx _ who (by omega) k (by omega), at_idx _ other (by omega) k (by omega), at_idx l other hl k hk]
  simp only [Option.bind_some]
  rw [filter_lt l who, if_pos (by simp only [ge_iff_le, idx_neg, beq_self_eq_true]), if_pos ((idx_neg1 _ _).2 (by simp))]
  by_cases e : other = who
  · rw [if_pos e]
  · rw [if_neg e]
    simp only [ge_iff_le, idx_neg]
    simp [e]

theorem drops_loop (l : List Int) (who other : Int) (hl : l.length ≤ 9223372036854775807) (d : Nat) : ∀ (k n : Nat), n ≤ l.length → l.length - n = d → d + l.length + 1 < k →
    interchangelaw14_LineDrops.l0 k l who other true (l.filter (fun x => !(x == who))) (decide ((l.filter (fun x => !(x == who))).length < l.length)) (((l.take n).filter (fun x => !(x == who))).length : Int) (n : Int) = some true := by
  have hf := List.length_filter_le (fun x => !(x == who)) l
  induction d with
  | zero =>
    intro k n h1 hd hk
    obtain ⟨k, rfl⟩ : ∃ m, k = m + 1 := ⟨k - 1, by omega⟩
    simp only [interchangelaw14_LineDrops.l0]
    rw [if_neg (by omega), if_pos trivial, List.take_of_length_le (by omega), if_pos rfl]
    exact drops_end l who other hl k (by omega)
  | succ d ih =>
    intro k n h1 hd hk
    obtain ⟨k, rfl⟩ : ∃ m, k = m + 1 := ⟨k - 1, by omega⟩
    have hlt : n < l.length := by omega
    have ih' := ih k (n + 1) (by omega) (by omega) (by omega)
    have hsp : l.filter (fun x => !(x == who)) = (l.take n).filter (fun x => !(x == who)) ++ (l.drop n).filter (fun x => !(x == who)) := by
      rw [← List.filter_append, List.take_append_drop]
    simp only [interchangelaw14_LineDrops.l0]
    rw [if_pos (by omega), if_pos (by omega), rd_nat l n hlt, wrap_nat hlt hl]
    rw [List.take_succ_eq_append_getElem hlt, List.filter_append] at ih'
    rw [List.drop_eq_getElem_cons hlt] at hsp
    by_cases e : l[n] = who
    · rw [if_pos e]
      have hz : [l[n]].filter (fun x => !(x == who)) = [] := by simp [e]
      rw [hz, List.append_nil] at ih'
      exact ih'
    · rw [if_neg e]
      have hz : [l[n]].filter (fun x => !(x == who)) = [l[n]] := by simp [e]
      rw [hz, List.length_append] at ih'
      have hz2 : (l[n] :: l.drop (n + 1)).filter (fun x => !(x == who)) = l[n] :: (l.drop (n + 1)).filter (fun x => !(x == who)) := by rw [List.filter_cons, if_pos (by simp [e])]
      rw [hz2] at hsp
      have hlen := congrArg List.length hsp
      simp only [List.length_append, List.length_cons] at hlen
      rw [if_neg (by omega), if_pos (by omega), if_pos (by omega)]
      have hlt2 : ((l.take n).filter (fun x => !(x == who))).length < (l.filter (fun x => !(x == who))).length := by omega
      rw [rd_nat _ _ hlt2]
      have hget : (l.filter (fun x => !(x == who)))[((l.take n).filter (fun x => !(x == who))).length] = l[n] := by
        have h3 : (l.filter (fun x => !(x == who)))[((l.take n).filter (fun x => !(x == who))).length]? = some l[n] := by
          conv => lhs; lhs; rw [hsp]
          simp
        rw [List.getElem?_eq_getElem hlt2] at h3
        exact Option.some.inj h3
      rw [if_pos hget, wrap_nat hlt2 (by omega)]
      exact ih'

theorem LineDrops : interchangelaw14_LineDrops.Pure := by
  intro l a o _ h8 _ _ _
  have hl : l.length ≤ 9223372036854775807 := by omega
  refine ⟨l.length + l.length + 2, ?_⟩
  unfold interchangelaw14_LineDrops.f line_Drop.f
  rw [shown_true, if_pos (by omega)]
  simp only [Option.bind_some]
  have := drops_loop l a o hl l.length (l.length + l.length + 2) 0 (by omega) (by omega) (by omega)
  simpa using this
end Go.Proofs.Ytpfaidejbnbelaa.Pure
