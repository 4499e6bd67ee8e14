/- line.Add: what it computes, and that its call does so. -/
import Derived.Test.YtpfaidejbnbelaaL11
import Derived.Test.YtpfaidejbnbelaaC
namespace Go.Proofs.Ytpfaidejbnbelaa.Q
open Go.RowKit Go.Proofs.YtpfaidejbnbelaaW.PrintWords Go.Proofs.YtpfaidejbnbelaaW.PrintLast Go.Proofs.YtpfaidejbnbelaaW.PrintMore
attribute [local go_sem] max2_int min2_int max_two min_two max_three min_three max_four min_four   -- for this text's walks alone
set_option linter.unusedVariables false
set_option linter.unusedSimpArgs false

def line_Add.f (l0 : List Int) (a1 a2 : Int) : Option (List Int × Int) :=
  some (if a1 < 1 then (l0, 1) else if 0 ≤ idx l0 a1 then (l0, 14) else if mn (mx a2 0) 1000 ≤ (l0.length : Int) then (l0, 12) else (l0 ++ [a1], 0))

set_option maxHeartbeats 8000000 in
set_option maxRecDepth 100000 in
theorem line_Add.calls (P0_ : Nat → Prop) (A0 : Option Addr) (c0 : Nat) (l0 : List Int) (a1 : Int) (a2 : Int) (r1 : List Int) (r2 : Int) (w : World) (hs0 : Kd.V (Kd.int .i64) 3 w w.heap.size (fun k_ => P0_ k_) (.slice A0 l0.length c0) l0) (h : line_Add.f l0 a1 a2 = some (r1, r2)) :
    Calls Try.prog 12 #[.slice A0 l0.length c0, .int .i64 a1, .int .i64 a2] w fun e w' => ∃ v0_ : Value, e = .returned (.tuple #[v0_, .int .i64 r2]) ∧ Kd.V (Kd.int .i64) 3 w' w.heap.size (fun k_ => (P0_ k_ ∨ w.heap.size ≤ k_)) v0_ r1 ∧ Below w.heap.size w w' := by
  have HV := Kd.V_at hs0
  have HC := Aside0.mk (Kd.F_now HV.2.2)
  have hcl : l0.length ≤ c0 := HV.2.1
  have hm : l0.length ≤ 9223372036854775807 := Kd.F_max HV.2.2
  have HS := Aside0.mk hs0
  clear hs0 HV
  have h0 := Option.some.inj h
  clear h
  by_cases c1 : a1 < 1
  · rw [if_pos c1] at h0
    obtain ⟨rfl, rfl⟩ := Prod.mk.inj h0
    go_enter Try.func12, Try.ntmps12
    go_wp2
    go_ret2
    exact ⟨_, rfl, Kd.V_mono HS.out (fun _ h => Or.inl h), Below.refl _ _⟩
  · rw [if_neg c1] at h0
    have hat := at_idx l0 a1 hm (l0.length + 1) (by omega)
    have hcall := line_At.calls (l0.length + 1) A0 c0 l0 a1 (idx l0 a1)
    have hir := idx_range l0 a1
    generalize idx l0 a1 = ix at hat hcall hir h0
    have HA := Aside0.mk hat
    have HK := Aside0.mk hcall
    clear hat hcall
    by_cases c2 : 0 ≤ ix
    · rw [if_pos c2] at h0
      obtain ⟨rfl, rfl⟩ := Prod.mk.inj h0
      go_enter Try.func12, Try.ntmps12
      go_wp2_with (go_at_call 11; refine (HK.out _ HC.out hcl HA.out).mono ?_; rintro e w' ⟨rfl, ⟨nd, rfl⟩⟩)
      go_ret2
      exact ⟨_, rfl, Kd.V_drewN (Kd.V_mono HS.out (fun _ h => Or.inl h)) _, below_drewN0 _ _⟩
    · rw [if_neg c2] at h0
      obtain ⟨j1, hj1⟩ : ∃ j : Int, mx a2 0 = j := ⟨_, rfl⟩
      rw [hj1] at h0
      have hj1_ : (if a2 < 0 then 0 else a2) = j1 := hj1
      clear hj1
      obtain ⟨j2, hj2⟩ : ∃ j : Int, mn j1 1000 = j := ⟨_, rfl⟩
      rw [hj2] at h0
      have hj2_ : (if 1000 < j1 then 1000 else j1) = j2 := hj2
      have hj3 : j2 ≤ 1000 := by rw [← hj2]; unfold mn; split <;> omega
      clear hj2
      by_cases c3 : j2 ≤ (l0.length : Int)
      · rw [if_pos c3] at h0
        obtain ⟨rfl, rfl⟩ := Prod.mk.inj h0
        go_enter Try.func12, Try.ntmps12
        go_wp2_with (go_at_call 11; refine (HK.out _ HC.out hcl HA.out).mono ?_; rintro e w' ⟨rfl, ⟨nd, rfl⟩⟩)
        go_ret2
        exact ⟨_, rfl, Kd.V_drewN (Kd.V_mono HS.out (fun _ h => Or.inl h)) _, below_drewN0 _ _⟩
      · rw [if_neg c3] at h0
        obtain ⟨rfl, rfl⟩ := Prod.mk.inj h0
        have hs1 : l0.length + 1 ≤ 1000 := by omega
        go_enter Try.func12, Try.ntmps12
        go_wp2_with (first | (go_at_call 11; refine (HK.out _ HC.out hcl HA.out).mono ?_; rintro e w' ⟨rfl, ⟨nd, rfl⟩⟩) | (at_builtin; refine wp_append_full (Kd.int .i64) (Flat.int _) rfl (.tmp 31) (.tmp 33) 22 3 (.int .i64 0) 8 rfl Try.underlying22 info3 rfl (by decide) (by decide) A0 l0 a1 [.int .i64 a1] rfl rfl rfl (Kd.C_drewN HC.out _) (by omega) ?_; intro v1 w1 hR hB))
        all_goals
          go_ret2
          refine ⟨_, rfl, ?_, below_then (below_drewN0 w _) (by simp) hB⟩
          exact Kd.V_mono (Kd.R_V (Kd.R_bound hR)) (fun k hk => Or.inr hk.2.1)
end Go.Proofs.Ytpfaidejbnbelaa.Q
