/- line.Serve: what it computes, and that its call does so. -/
import Derived.Test.YtpfaidejbnbelaaH14
namespace Go.Proofs.Ytpfaidejbnbelaa.Q
open Go.RowKit Go.Proofs.YtpfaidejbnbelaaW.PrintWords Go.Proofs.YtpfaidejbnbelaaW.PrintLast Go.Proofs.YtpfaidejbnbelaaW.PrintMore
set_option linter.unusedVariables false
set_option linter.unusedSimpArgs false

def line_Serve.f (l0 : List Int) (a1 : Int) : Option (List Int × List Int) := if l0.length ≤ 17592186044416 then some (l0.take a1.toNat, l0.drop a1.toNat) else none

theorem serve_end {l0 xs ys : List Int} {n : Int} (hl : l0 = xs ++ ys) (h1 : xs.length = 0 ∨ (xs.length : Int) ≤ n) (h2 : ¬ (xs.length : Int) < n ∨ ys = []) : l0.take n.toNat = xs ∧ l0.drop n.toNat = ys := by
  subst hl
  rcases h2 with h2 | h2
  · have : n.toNat = xs.length := by omega
    rw [this]
    simp
  · subst h2
    simp only [List.append_nil]
    rcases h1 with h1 | h1
    · have : xs = [] := List.eq_nil_of_length_eq_zero h1
      subst this
      simp
    · exact ⟨List.take_of_length_le (by omega), List.drop_eq_nil_of_le (by omega)⟩

set_option maxHeartbeats 8000000 in
set_option maxRecDepth 100000 in
theorem line_Serve.calls (P0_ : Nat → Prop) (A0 : Option Addr) (c0 : Nat) (l0 : List Int) (a1 : Int) (r1 r2 : List Int) (w : World) (hs0 : Kd.V (Kd.int .i64) 3 w w.heap.size (fun k_ => P0_ k_) (.slice A0 l0.length c0) l0) (h : line_Serve.f l0 a1 = some (r1, r2)) :
    Calls Try.prog 18 #[.slice A0 l0.length c0, .int .i64 a1] w fun e w' => ∃ v0_ v1_ : Value, e = .returned (.tuple #[v0_, v1_]) ∧ Kd.R (Kd.int .i64) 3 w' w.heap.size (fun _ => True) v0_ r1 ∧ Kd.V (Kd.int .i64) 3 w' w.heap.size (fun k_ => (P0_ k_ ∨ w.heap.size ≤ k_) ∧ some k_ ≠ (v0_ : Value).ownBlock) v1_ r2 ∧ Below w.heap.size w w' := by
  have HS := Aside0.mk (Kd.V_bound hs0)
  clear hs0
  have hreach : l0.length ≤ 17592186044416 := by
    unfold line_Serve.f at h
    by_cases hr : l0.length ≤ 17592186044416
    · exact hr
    · rw [if_neg hr] at h; cases h
  unfold line_Serve.f at h
  rw [if_pos hreach] at h
  have h0 := Aside0.mk (Prod.mk.inj (Option.some.inj h))
  clear h
  go_enter Try.func18, Try.ntmps18
  go_wp2
  go_step3
  go_wp2
  go_step3
  go_wp2
  go_loopg [0, 6] l0.length (fun gg v0 v6 wr => ∃ xs ys : List Int, Aside0 (l0 = xs ++ ys) ∧ ys.length ≤ gg ∧ Aside0 (xs.length = 0 ∨ (xs.length : Int) ≤ a1) ∧ Aside0 (Kd.R (Kd.int .i64) 3 wr w.heap.size (fun _ => True) v6 xs) ∧ Aside0 (Kd.V (Kd.int .i64) 3 wr w.heap.size (fun k_ => P0_ k_ ∧ k_ < w.heap.size) v0 ys) ∧ Aside0 (Below w.heap.size w wr))
  case atStart => exact ⟨[], l0, ⟨rfl⟩, Nat.le_refl _, ⟨.inl rfl⟩, ⟨Kd.R_nil _ _ _ _ _⟩, ⟨HS.out⟩, ⟨Below.refl _ _⟩⟩
  case round =>
    obtain ⟨xs, ys, HL, hg, HN, HR, HV, HB⟩ := hrel
    have hlen : xs.length ≤ l0.length := by rw [HL.out]; simp
    have hmax : l0.length ≤ 9223372036854775807 := Kd.F_max (Kd.V_F HS.out)
    obtain ⟨Ao, co, rfl⟩ := Kd.R_slice HR.out
    obtain ⟨Av, cv, rfl⟩ := Kd.V_slice HV.out
    by_cases hn : (xs.length : Int) < a1
    · cases ys with
      | nil =>
        go_wp2_with (go_at_call 14; refine (line_First.strong _ _ _ [] 0 [] false _ HV.out rfl).mono ?_; rintro e w' ⟨vr, rfl, hv, ⟨nd, rfl⟩⟩)
        obtain ⟨e1, e2⟩ := serve_end HL.out HN.out (.inr rfl)
        rw [Exit.noGoto_ret]
        go_ret2
        refine ⟨_, _, rfl, ?_, ?_, pw_below_drewN HB.out _⟩
        · rw [← h0.out.1, e1]; exact Kd.R_drewN HR.out _
        · rw [← h0.out.2, e2]
          exact Kd.V_drewN (Kd.V_mono HV.out (fun k hk => ⟨.inl hk.1, fun e => by have := own_base (Kd.R_own HR.out).choose_spec k e.symm; omega⟩)) _
      | cons y ys =>
        have hxs : xs.length + 1 ≤ 17592186044416 := by have := hreach; have h2 := congrArg List.length HL.out; simp at h2; omega
        go_wp2_with (first | (go_at_call 14; refine (line_First.strong _ _ _ (y :: ys) y ys true _ HV.out rfl).mono ?_; rintro e w' ⟨vr, rfl, hv, ⟨nd, rfl⟩⟩) | (at_builtin; refine Kd.R_append (Kd.int .i64) (w0 := w) w.heap.size rfl (.tmp 22) (.tmp 24) 22 3 (.int .i64 0) 8 rfl Try.underlying22 info3 rfl (by decide) (by omega) (.slice Ao xs.length co) xs y [.int .i64 y] (fun _ => True) (fun _ => False) rfl rfl ?aP (fun _ hk => hk.elim) ?aF ?aO ?aB ?aS ?aL ?_; (case aP => exact rfl); (case aB => exact (pw_below_drewN HB.out _)); (case aF => exact (fun _ _ => trivial)); (case aO => exact Kd.R_drewN HR.out _); (case aS => exact HB.out.size); (case aL => omega); intro v1 w1 ho hb hgr hat))
        go_roundg ys.length
        case measure => simp at hg; omega
        case rel => exact ⟨xs ++ [y], ys, ⟨by rw [HL.out]; simp⟩, Nat.le_refl _, ⟨.inr (by simp; omega)⟩, ⟨ho⟩, ⟨Kd.V_grown (Kd.V_drewN hv _) hgr (fun k hk e => by have := own_base (Kd.R_own HR.out).choose_spec k e.symm; omega)⟩, ⟨hb⟩⟩
    · obtain ⟨e1, e2⟩ := serve_end HL.out HN.out (.inl hn)
      go_wp2
      try rw [Exit.noGoto_ret]
      go_ret2
      refine ⟨_, _, rfl, ?_, ?_, HB.out⟩
      · rw [← h0.out.1, e1]; exact HR.out
      · rw [← h0.out.2, e2]
        exact Kd.V_mono HV.out (fun k hk => ⟨.inl hk.1, fun e => by have := own_base (Kd.R_own HR.out).choose_spec k e.symm; omega⟩)
end Go.Proofs.Ytpfaidejbnbelaa.Q
