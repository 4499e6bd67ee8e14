/- slices.Grow (of no slice) and slices.Concat (of two) at []api.Tag: what they compute, and that their calls do so. -/
import Derived.Test.YtoljcjlflanflaaH22
import Derived.Lib.AppendZerosOnto
namespace Go.Proofs.Ytoljcjlflanflaa.Q
open Go.RowKit Go.Proofs.YtoljcjlflanflaaW.PrintWords Go.Proofs.YtoljcjlflanflaaW.PrintLast Go.Proofs.YtoljcjlflanflaaW.PrintMore
set_option linter.unusedVariables false
set_option linter.unusedSimpArgs false

theorem info47 : (Try.prog.info? 47).map (fun i => (i.zero, i.size, i.bytes)) = some (some (.agg #[.int .u64 0, .int .u64 0]), 2, 16) := by kernel_rfl

theorem grow_run (w : World) (n : Nat) (h0 : 0 < n) (hn : n * 16 ≤ 140737488355328) (ty : TypeId) :
    ∃ G, n ≤ G ∧ G ≤ maxLen ∧ ∃ cur : Array Value, cur.size = G * 2 ∧ (Builtin.append_ #[23, 3] ty #[.slice none 0 0, .int .i64 n]).run Try.prog w = .ok (.slice (some ⟨w.heap.size, 0, none⟩) n G) (w.drew.alloc (.cells cur 47)) := by
  obtain ⟨i0, hi, hz0, hz1, hz2⟩ := info_parts info47
  have hfit : Builtin.nextslicecap (0 + n) 0 * i0.bytes ≤ 281474976710656 := growslice_fits (by omega) (by rw [hz2]; omega)
  have h := Lib.run_append_grow_zeros w 23 3 ty 47 i0 _ .i64 .i64 Try.underlying23 Try.underlying3 hi hz0 none 0 0 [] (run_firstCells_none w.drew i0.size 0 0 0) n h0 (by rw [hz1]; decide) (by omega) (by omega) (by rw [hz2]; omega) hfit
  rw [Nat.zero_add] at h
  refine ⟨_, grownCap_ge w n 0 47, grownCap_le_maxLen w n 0 47 (by unfold maxLen; omega), _, ?_, h⟩
  have := grownCap_ge w n 0 47
  simp [Builtin.zeroCells, Value.cells]
  omega

theorem wp_append_run {P : Program} {w w' : World} {ops : Array Oper} {rest : List Oper} {o : Oper} {a : Act} {Q : Exit → Act → World → Prop} (hg : o.guard = none) (s x : Operand) (ts tn : TypeId)
    (hop : o.op = Op.call { callee := Callee.builtin Builtin.append, args := #[s, x], argTypes := #[ts, tn] }) {sv xv v : Value} (hs : a.eval s = sv) (hx : a.eval x = xv)
    (hrun : ∀ ty, (Builtin.append_ #[ts, tn] ty #[sv, xv]).run P w = .ok v w') (h : wpList P ops Q rest (a.put o.dst v) w') : wpList P ops Q (o :: rest) a w := by
  refine wpList_plain hg fun K hK' => ?_
  unfold Oper.wp
  simp [execOp, hop, resolve, invoke, builtin, hs, hx, hrun, Result.andThen]
  exact hK' _ _ h

set_option maxHeartbeats 8000000 in
set_option maxRecDepth 100000 in
theorem slices_Grow.calls (n : Nat) (hn : n * 16 ≤ 140737488355328) (w : World) :
    Calls Try.prog 25 #[.slice none 0 0, .int .i64 n] w fun e w' => ∃ v : Value, e = .returned v ∧ Kd.R k47 47 w' w.heap.size (fun _ => True) v [] ∧ Below w.heap.size w w' := by
  by_cases h0 : n = 0
  · subst h0
    go_enter Try.func25, Try.ntmps25
    go_wp2
    go_ret
    exact ⟨_, rfl, Kd.R_nil _ _ _ _ _, Below.refl _ _⟩
  · obtain ⟨G, hG1, hG2, cur, hcs, hrz⟩ := grow_run w n (by omega) hn 23
    have hrz' : ∀ ty, (Builtin.append_ #[23, 3] ty #[.slice none 0 0, .int .i64 n]).run Try.prog w = .ok (.slice (some ⟨w.heap.size, 0, none⟩) n G) (w.drew.alloc (.cells cur 47)) := fun ty => hrz
    have h1 : ¬ (n : Int) < 0 := by omega
    have h2 : (0 : Int) < (n : Int) := by omega
    have h3 : wrap64 ((n : Int) - 0) = (n : Int) := by unfold wrap64; omega
    have h4 : wrap64 (n : Int) = (n : Int) := by unfold wrap64; omega
    unfold maxLen at hG2
    go_enter Try.func25, Try.ntmps25
    go_wp2_with (at_builtin; refine wp_append_run rfl (.tmp 20) (.tmp 21) 23 3 rfl rfl rfl hrz' ?_)
    go_ret
    have hb : Below w.heap.size w (w.drew.alloc (.cells cur 47)) := below_alloc (below_drew1 (Below.refl _ _)) _
    refine ⟨_, rfl, ⟨fun _ _ => trivial, [], ⟨rfl, .inr ⟨w.heap.size, G, cur, rfl, Nat.le_refl _, blk_new w.drew _, Nat.zero_le _, by unfold maxLen; omega, hcs, by simp⟩⟩, Reps.none _ _⟩, hb⟩

/-- What has been put together when n of the two are over. -/
def catN (l1 l2 : List S47) : Nat → List S47
  | 0 => []
  | 1 => l1
  | _ => l1 ++ l2
def sizeN (l1 l2 : List S47) (n : Nat) : Nat := (catN l1 l2 n).length

set_option maxHeartbeats 8000000 in
set_option maxRecDepth 100000 in
theorem slices_Concat.calls (A1 A2 : Option Addr) (c1 c2 : Nat) (l1 l2 : List S47) (g : Nat) (w : World) (hn : (l1.length + l2.length) * 16 ≤ 140737488355328)
    (h0 : w.cell? ⟨g, 0, none⟩ = some (.slice A1 l1.length c1)) (h1 : w.cell? ⟨g, 1, none⟩ = some (.slice A2 l2.length c2)) (hg : g < w.heap.size)
    (hC1 : Kd.C k47 w A1 l1.length l1) (hC2 : Kd.C k47 w A2 l2.length l2) :
    Calls Try.prog 20 #[.slice (some ⟨g, 0, none⟩) 2 2] w fun e w' => ∃ v : Value, e = .returned v ∧ Kd.R k47 47 w' w.heap.size (fun _ => True) v (l1 ++ l2) ∧ Below w.heap.size w w' := by
  have HC1 := Aside0.mk hC1
  have HC2 := Aside0.mk hC2
  have HG := Aside0.mk (fun (w : World) => slices_Grow.calls (l1.length + l2.length) hn w)
  clear hC1 hC2
  go_enter Try.func20, Try.ntmps20
  go_wp2
  go_loopg [3, 11] 2 (fun gg v3 v11 wr => ∃ n : Nat, n ≤ 2 ∧ 2 - n ≤ gg ∧ v3 = .int .i64 (sizeN l1 l2 n : Int) ∧ v11 = .int .i64 n ∧ Aside0 (Drawn0 w wr))
  case atStart => exact ⟨0, by omega, by omega, rfl, rfl, ⟨Drawn0.refl _⟩⟩
  case round =>
    obtain ⟨n, hn2, hgg, rfl, rfl, ⟨⟨nd, rfl⟩⟩⟩ := hrel
    have hcase : n = 0 ∨ n = 1 ∨ n = 2 := by omega
    rcases hcase with rfl | rfl | rfl
    · have e1 : sizeN l1 l2 0 = 0 := rfl
      rw [e1]
      have e2 : wrap64 (l1.length : Int) = (l1.length : Int) := by unfold wrap64; omega
      have e3 : ¬ (l1.length : Int) < 0 := by omega
      go_wp2
      go_roundg 1
      case measure => omega
      case rel => exact ⟨1, by omega, by omega, by simp [sizeN, catN], rfl, ⟨⟨_, rfl⟩⟩⟩
    · have e1 : sizeN l1 l2 1 = l1.length := rfl
      rw [e1]
      have e2 : wrap64 ((l1.length : Int) + (l2.length : Int)) = ((l1.length + l2.length : Nat) : Int) := by unfold wrap64; omega
      have e3 : ¬ ((l1.length + l2.length : Nat) : Int) < 0 := by omega
      go_wp2
      go_roundg 0
      case measure => omega
      case rel => exact ⟨2, by omega, by omega, by simp [sizeN, catN], rfl, ⟨⟨_, rfl⟩⟩⟩
    · have e1 : sizeN l1 l2 2 = l1.length + l2.length := by simp [sizeN, catN]
      rw [e1]
      go_wp2_with (go_at_call 25; refine (HG.out _).mono ?_; rintro e w2 ⟨v, rfl, hR, hB⟩)
      have k0 : w2.cell? ⟨g, 0, none⟩ = some (.slice A1 l1.length c1) := (hB.cell (p := ⟨g, 0, none⟩) (by simpa using hg)).trans h0
      have k1 : w2.cell? ⟨g, 1, none⟩ = some (.slice A2 l2.length c2) := (hB.cell (p := ⟨g, 1, none⟩) (by simpa using hg)).trans h1
      have K0 := Aside0.mk k0
      have K1 := Aside0.mk k1
      have HR := Aside0.mk (Kd.R_lower hR (by simp : w.heap.size ≤ (w.drewN nd).heap.size))
      have HB := Aside0.mk ((below_drewN0 w nd).trans hB)
      clear hR hB k0 k1
      have cB : ∀ {W : World}, Below w.heap.size w W → W.cell? ⟨g, 0, none⟩ = some (.slice A1 l1.length c1) ∧ W.cell? ⟨g, 1, none⟩ = some (.slice A2 l2.length c2) := fun hb => ⟨(hb.cell (p := ⟨g, 0, none⟩) hg).trans h0, (hb.cell (p := ⟨g, 1, none⟩) hg).trans h1⟩
      have CB := Aside0.mk @cB
      clear cB
      clear h0 h1
      go_loopg [6, 27] 2 (fun gg v6 v27 wr => ∃ n : Nat, n ≤ 2 ∧ 2 - n ≤ gg ∧ v27 = .int .i64 n ∧ Aside0 (Kd.R k47 47 wr w.heap.size (fun _ => True) v6 (catN l1 l2 n)) ∧ Aside0 (Below w.heap.size w wr))
      case atStart => exact ⟨0, by omega, by omega, rfl, HR, HB⟩
      case round =>
        obtain ⟨n, hn2, hgg, rfl, HRr, HBr⟩ := hrel
        obtain ⟨k0, k1⟩ := CB.out HBr.out
        have hcase : n = 0 ∨ n = 1 ∨ n = 2 := by omega
        rcases hcase with rfl | rfl | rfl
        · go_wp2_with (at_builtin; refine Kd.R_append_rows k47 (Rr := k47.K wr) (w0 := w) (W := wr) w.heap.size rfl (.tmp 31) (.tmp 32) 23 47 (.agg #[.int .u64 0, .int .u64 0]) 16 rfl Try.underlying23 info47 rfl (by decide) (by decide) _ (catN l1 l2 0) l1 A1 l1.length c1 (fun _ => True) (fun _ => False) rfl rfl HRr.out (Kd.C_below HC1.out HBr.out) (fun x cs h => Flat.k47 _ _ _ _ _ _ h) (fun _ h => h.elim) (fun _ _ => trivial) HBr.out HBr.out.size (by simp [catN]; omega) ?_; intro v1 w3 hR3 hB3 hG3 hA3; have HR3 := Aside0.mk hR3; have HB3 := Aside0.mk hB3; clear hR3 hB3 hG3 hA3)
          go_roundg 1
          case measure => omega
          case rel => exact ⟨1, by omega, by omega, by first | rfl | go_num, ⟨by simpa [catN] using HR3.out⟩, HB3⟩
        · go_wp2_with (at_builtin; refine Kd.R_append_rows k47 (Rr := k47.K wr) (w0 := w) (W := wr) w.heap.size rfl (.tmp 31) (.tmp 32) 23 47 (.agg #[.int .u64 0, .int .u64 0]) 16 rfl Try.underlying23 info47 rfl (by decide) (by decide) _ (catN l1 l2 1) l2 A2 l2.length c2 (fun _ => True) (fun _ => False) rfl rfl HRr.out (Kd.C_below HC2.out HBr.out) (fun x cs h => Flat.k47 _ _ _ _ _ _ h) (fun _ h => h.elim) (fun _ _ => trivial) HBr.out HBr.out.size (by simp [catN]; omega) ?_; intro v1 w3 hR3 hB3 hG3 hA3; have HR3 := Aside0.mk hR3; have HB3 := Aside0.mk hB3; clear hR3 hB3 hG3 hA3)
          go_roundg 0
          case measure => omega
          case rel => exact ⟨2, by omega, by omega, by first | rfl | go_num, ⟨by simpa [catN] using HR3.out⟩, HB3⟩
        · go_wp2
          go_ret
          exact ⟨_, rfl, HRr.out, HBr.out⟩
end Go.Proofs.Ytoljcjlflanflaa.Q
