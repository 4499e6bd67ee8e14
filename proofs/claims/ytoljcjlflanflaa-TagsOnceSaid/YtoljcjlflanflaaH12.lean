/- tags.Settle: what it computes, and that its call does so. -/
import Derived.Test.YtoljcjlflanflaaH12E
import Derived.Test.YtoljcjlflanflaaH12A
import Derived.Test.YtoljcjlflanflaaH12B
import Derived.Test.YtoljcjlflanflaaH12D
namespace Go.Proofs.Ytoljcjlflanflaa.Q
open Go.RowKit Go.Proofs.YtoljcjlflanflaaW.PrintWords Go.Proofs.YtoljcjlflanflaaW.PrintLast Go.Proofs.YtoljcjlflanflaaW.PrintMore
open Go.Shelf
set_option linter.unusedVariables false
set_option linter.unusedSimpArgs false
/-- All of them are meant. -/
def allOf (n : Int) (many : Bool) : Bool := many && (n == 0)
def isOf (l : List S47) (n : Int) (many : Bool) : Bool := if allOf n many = true then decide (0 < l.length) else placeIs l n
def toOf (l : List S47) (n : Int) (many : Bool) : Nat := if allOf n many = true then l.length else bsI l n + 1
def fromOf (l : List S47) (n : Int) (many : Bool) : Nat := if many = true then 0 else bsI l n
def tags_Settle.f (a0_0 a0_1 : Int) (l0_2 : List S47) (a1 : Int) (a2 : Bool) : Option (Int × Int × List S47 × List Int × Int) :=
  if isOf l0_2 a1 a2 = false then some (a0_0, a0_1, l0_2, [], 13)
  else if l0_2.length ≤ 8796093022000 then some (a0_0, a0_1, l0_2.take (fromOf l0_2 a1 a2) ++ l0_2.drop (toOf l0_2 a1 a2), ((l0_2.take (toOf l0_2 a1 a2)).drop (fromOf l0_2 a1 a2)).map (·.f1), 0)
  else none

theorem tags_Settle.calls (a0_0 : Int) (a0_1 : Int) (P0_2_ : Nat → Prop) (A0_2 : Option Addr) (c0_2 : Nat) (l0_2 : List S47) (a1 : Int) (a2 : Bool) (r1 : Int) (r2 : Int) (r3 : List S47) (r4 : List Int) (r5 : Int) (w : World) (hs0_2 : Kd.V k47 47 w w.heap.size (fun k_ => P0_2_ k_) (.slice A0_2 l0_2.length c0_2) l0_2) (h : tags_Settle.f a0_0 a0_1 l0_2 a1 a2 = some (r1, r2, r3, r4, r5)) :
    Calls Try.prog 12 #[.agg #[.int .u64 a0_0, .int .u64 a0_1, .slice A0_2 l0_2.length c0_2], .int .u64 a1, .bool a2] w fun e w' => ∃ v2_ v3_ : Value, e = .returned (.tuple #[.agg #[.int .u64 r1, .int .u64 r2, v2_], v3_, .int .i64 r5]) ∧ Kd.V k47 47 w' w.heap.size (fun k_ => ((P0_2_ k_ ∨ w.heap.size ≤ k_) ∧ some k_ ≠ v3_.ownBlock)) v2_ r3 ∧ Kd.R (Kd.int .u64) 22 w' w.heap.size (fun _ => True) v3_ r4 ∧ Below w.heap.size w w' := by
  refine (callsIn_wide (n := 5)).1 ?_
  unfold tags_Settle.f at h
  cases hr : isOf l0_2 a1 a2 with
  | false =>
    rw [if_pos hr] at h
    simp only [Option.some.injEq, Prod.mk.injEq] at h
    obtain ⟨rfl, rfl, rfl, rfl, rfl⟩ := h
    cases a2 with
    | false => exact tags_Settle.e_one a0_0 a0_1 P0_2_ A0_2 c0_2 l0_2 a1 w hs0_2 (by simpa [isOf, allOf] using hr)
    | true =>
      cases hz : (a1 == 0) with
      | false => exact tags_Settle.e_many a0_0 a0_1 P0_2_ A0_2 c0_2 l0_2 a1 w hs0_2 hz (by simpa [isOf, allOf, hz] using hr)
      | true => exact tags_Settle.e_none a0_0 a0_1 P0_2_ A0_2 c0_2 l0_2 a1 w hs0_2 hz (by simpa [isOf, allOf, hz] using hr)
  | true =>
    rw [if_neg (by rw [hr]; simp)] at h
    have hreach : l0_2.length ≤ 8796093022000 := by
      by_cases hh : l0_2.length ≤ 8796093022000
      · exact hh
      · rw [if_neg hh] at h; cases h
    rw [if_pos hreach] at h
    simp only [Option.some.injEq, Prod.mk.injEq] at h
    obtain ⟨rfl, rfl, rfl, rfl, rfl⟩ := h
    cases a2 with
    | false =>
      have e : allOf a1 false = false := rfl
      have e1 : toOf l0_2 a1 false = bsI l0_2 a1 + 1 := by simp [toOf, e]
      have e2 : fromOf l0_2 a1 false = bsI l0_2 a1 := by simp [fromOf]
      rw [e1, e2]
      exact tags_Settle.g_one a0_0 a0_1 P0_2_ A0_2 c0_2 l0_2 a1 _ _ rfl rfl hreach w hs0_2 (by simpa [isOf, e] using hr)
    | true =>
      have e2 : fromOf l0_2 a1 true = 0 := by simp [fromOf]
      rw [e2]
      cases hz : (a1 == 0) with
      | false =>
        have e : allOf a1 true = false := by simp [allOf, hz]
        have e1 : toOf l0_2 a1 true = bsI l0_2 a1 + 1 := by simp [toOf, e]
        rw [e1]
        exact tags_Settle.g_many a0_0 a0_1 P0_2_ A0_2 c0_2 l0_2 a1 _ _ rfl rfl hreach w hs0_2 hz (by simpa [isOf, e] using hr)
      | true =>
        have e : allOf a1 true = true := by simp [allOf, hz]
        have e1 : toOf l0_2 a1 true = l0_2.length := by simp [toOf, e]
        rw [e1]
        exact tags_Settle.g_all a0_0 a0_1 P0_2_ A0_2 c0_2 l0_2 a1 _ _ rfl rfl hreach w hs0_2 hz (by simpa [isOf, e] using hr)
end Go.Proofs.Ytoljcjlflanflaa.Q
