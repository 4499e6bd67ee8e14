/- seq.Confirm: what it computes, and that its call does so. -/
import Derived.Test.YtngbkagamhakiaaH12E
import Derived.Test.YtngbkagamhakiaaH12A
import Derived.Test.YtngbkagamhakiaaH12B
import Derived.Test.YtngbkagamhakiaaH12D
namespace Go.Proofs.Ytngbkagamhakiaa.Q
open Go.RowKit Go.Proofs.YtngbkagamhakiaaW.PrintWords Go.Proofs.YtngbkagamhakiaaW.PrintLast Go.Proofs.YtngbkagamhakiaaW.PrintMore
open Go.Shelf
set_option linter.unusedVariables false
set_option linter.unusedSimpArgs false
attribute [local go_sem] Oper.semAt_some

/-- The number that is told, as its own. -/
def topOf (off up : Int) : Int := IntKind.u64.wrap (up - off)
def allOf (many : Bool) (up : Int) : Bool := many && (up == 0)
def refused (on : Bool) (off : Int) (l : List Int) (up : Int) (many : Bool) : Bool := !allOf many up && (!on || decide (up ≤ off) || !decide (topOf off up ∈ l))
def seq_Confirm.f (a0_0 : Bool) (a0_1 a0_2 : Int) (l0_3 : List Int) (a1 : Int) (a2 : Bool) : Option (Bool × Int × Int × List Int × List Int × Int) :=
  if refused a0_0 a0_2 l0_3 a1 a2 = true then some (a0_0, a0_1, a0_2, l0_3, [], 16)
  else if l0_3.length ≤ 17592186044000 then some (a0_0, a0_1, a0_2, l0_3.filter (fun n => !isIn (allOf a2 a1) a2 (topOf a0_2 a1) n), l0_3.filter (fun n => isIn (allOf a2 a1) a2 (topOf a0_2 a1) n), 0)
  else none

theorem seq_Confirm.calls (a0_0 : Bool) (a0_1 : Int) (a0_2 : Int) (P0_3_ : Nat → Prop) (A0_3 : Option Addr) (c0_3 : Nat) (l0_3 : List Int) (a1 : Int) (a2 : Bool) (r1 : Bool) (r2 : Int) (r3 : Int) (r4 r5 : List Int) (r6 : Int) (w : World) (hs0_3 : Kd.V (Kd.int .u64) 22 w w.heap.size (fun k_ => P0_3_ k_) (.slice A0_3 l0_3.length c0_3) l0_3) (h : seq_Confirm.f a0_0 a0_1 a0_2 l0_3 a1 a2 = some (r1, r2, r3, r4, r5, r6)) :
    Calls Try.prog 12 #[.agg #[.bool a0_0, .int .u64 a0_1, .int .u64 a0_2, .slice A0_3 l0_3.length c0_3], .int .u64 a1, .bool a2] w fun e w' => ∃ v3_ v4_ : Value, e = .returned (.tuple #[.agg #[.bool r1, .int .u64 r2, .int .u64 r3, v3_], v4_, .int .i64 r6]) ∧ Kd.V (Kd.int .u64) 22 w' w.heap.size (fun k_ => ((P0_3_ k_ ∨ w.heap.size ≤ k_) ∧ some k_ ≠ v4_.ownBlock)) v3_ r4 ∧ Kd.R (Kd.int .u64) 22 w' w.heap.size (fun _ => True) v4_ r5 ∧ Below w.heap.size w w' := by
  refine (callsIn_wide (n := 5)).1 ?_
  unfold seq_Confirm.f at h
  cases hr : refused a0_0 a0_2 l0_3 a1 a2 with
  | true =>
    rw [if_pos hr] at h
    simp only [Option.some.injEq, Prod.mk.injEq] at h
    obtain ⟨rfl, rfl, rfl, rfl, rfl, rfl⟩ := h
    have ha : allOf a2 a1 = false := by
      cases ha : allOf a2 a1 with
      | false => rfl
      | true => simp [refused, ha] at hr
    have hways : a0_0 = false ∨ (a0_0 = true ∧ a1 ≤ a0_2) ∨ (a0_0 = true ∧ ¬ a1 ≤ a0_2 ∧ decide (topOf a0_2 a1 ∈ l0_3) = false) := by
      cases a0_0
      · exact .inl rfl
      · by_cases h1 : a1 ≤ a0_2
        · exact .inr (.inl ⟨rfl, h1⟩)
        · exact .inr (.inr ⟨rfl, h1, by simpa [refused, ha, h1] using hr⟩)
    cases a2 with
    | true =>
      have hz : (a1 == 0) = false := by simpa [allOf] using ha
      have hz' : ¬ a1 = 0 := by simpa using hz
      rcases hways with rfl | ⟨rfl, hle⟩ | ⟨rfl, hle, hin⟩
      · exact seq_Confirm.e_true_off a0_1 a0_2 P0_3_ A0_3 c0_3 l0_3 a1 hz hz' _ rfl w hs0_3
      · exact seq_Confirm.e_true_le a0_1 a0_2 P0_3_ A0_3 c0_3 l0_3 a1 hz hz' _ rfl w hs0_3 hle
      · exact seq_Confirm.e_true_notin a0_1 a0_2 P0_3_ A0_3 c0_3 l0_3 a1 hz hz' _ rfl w hs0_3 hle hin
    | false =>
      rcases hways with rfl | ⟨rfl, hle⟩ | ⟨rfl, hle, hin⟩
      · exact seq_Confirm.e_false_off a0_1 a0_2 P0_3_ A0_3 c0_3 l0_3 a1 _ rfl w hs0_3
      · exact seq_Confirm.e_false_le a0_1 a0_2 P0_3_ A0_3 c0_3 l0_3 a1 _ rfl w hs0_3 hle
      · exact seq_Confirm.e_false_notin a0_1 a0_2 P0_3_ A0_3 c0_3 l0_3 a1 _ rfl w hs0_3 hle hin
  | false =>
    rw [if_neg (by rw [hr]; simp)] at h
    have hreach : l0_3.length ≤ 17592186044000 := by
      by_cases hh : l0_3.length ≤ 17592186044000
      · exact hh
      · rw [if_neg hh] at h; cases h
    rw [if_pos hreach] at h
    simp only [Option.some.injEq, Prod.mk.injEq] at h
    obtain ⟨rfl, rfl, rfl, rfl, rfl, rfl⟩ := h
    cases ha : allOf a2 a1 with
    | true =>
      obtain ⟨rfl, h1⟩ : a2 = true ∧ (a1 == 0) = true := by unfold allOf at ha; exact Bool.and_eq_true_iff.1 ha
      exact seq_Confirm.g_true_true a0_0 a0_1 a0_2 P0_3_ A0_3 c0_3 l0_3 a1 h1 _ rfl hreach w hs0_3
    | false =>
      have h3 : a0_0 = true ∧ ¬ a1 ≤ a0_2 ∧ decide (topOf a0_2 a1 ∈ l0_3) = true := by
        unfold refused at hr
        rw [ha] at hr
        cases a0_0
        · simp at hr
        · by_cases h1 : a1 ≤ a0_2
          · simp [h1] at hr
          · exact ⟨rfl, h1, by simpa [h1] using hr⟩
      obtain ⟨rfl, hle, hin⟩ := h3
      cases a2 with
      | true =>
        have hz : (a1 == 0) = false := by simpa [allOf] using ha
        exact seq_Confirm.g_true_false a0_1 a0_2 P0_3_ A0_3 c0_3 l0_3 a1 hz (by simpa using hz) _ rfl hreach w hs0_3 hle hin
      | false => exact seq_Confirm.g_false_false a0_1 a0_2 P0_3_ A0_3 c0_3 l0_3 a1 _ rfl hreach w hs0_3 hle hin
end Go.Proofs.Ytngbkagamhakiaa.Q
