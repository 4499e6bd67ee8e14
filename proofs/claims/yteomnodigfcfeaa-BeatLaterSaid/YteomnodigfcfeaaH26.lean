/- beat.ordered of none; the closures; Take, Drop. -/
import Derived.Test.YteomnodigfcfeaaH25
namespace Go.Proofs.Yteomnodigfcfeaa.Q
open Go.RowKit Go.Proofs.YteomnodigfcfeaaW.PrintWords Go.Proofs.YteomnodigfcfeaaW.PrintLast Go.Proofs.YteomnodigfcfeaaW.PrintMore
set_option linter.unusedVariables false
set_option linter.unusedSimpArgs false

set_option maxHeartbeats 8000000 in
set_option maxRecDepth 100000 in
theorem heap_Init0.calls (q : Nat) (A : Option Addr) (c : Nat) (w : World) (h : w.cell? ⟨q, 0, none⟩ = some (.slice A 0 c)) :
    Calls Try.prog 34 #[.iface 60 (.pointer (some ⟨q, 0, none⟩))] w fun e w' => e = .returned (.tuple #[]) ∧ w' = w := by
  have hm0 := method_Len q _ _ _ _ h
  clear h
  go_enter Try.func34, Try.ntmps34
  go_wp2_with (go_at_call 35; refine (queue_Len.calls _ _ _ _).mono ?_; rintro e w4 ⟨rfl, rfl⟩)
  go_loopg [3] 1 (fun gg v3 wr => v3 = .int .i64 (-1) ∧ wr = w4 ∧ 0 < gg)
  case atStart => exact ⟨by first | rfl | go_num, rfl, by omega⟩
  case round =>
    obtain ⟨rfl, rfl, hg⟩ := hrel
    go_wp2
    go_end0
    exact ⟨rfl, rfl⟩

set_option maxHeartbeats 8000000 in
set_option maxRecDepth 100000 in
/-- Of none. -/
theorem beat_ordered.of_none (A : Option Addr) (c : Nat) (km : Nat) (cap : Array Value) (w : World) (hC : Kd.C k24 w A ([] : List S24).length []) :
    Calls Try.prog 25 #[.slice A 0 c, .func (.func km) #[] cap] w fun e w' => e = .returned (.tuple #[.slice none 0 0, .slice none 0 0]) ∧ Below w.heap.size w w' := by
  have HK := Aside0.mk (slices_Clone.calls A c [] w hC (by simp))
  clear hC
  go_enter Try.func25, Try.ntmps25
  go_wp2
  go_step3
  go_wp2_with (first
    | (go_at_call 33; refine HK.out.mono ?_; rintro e w4 ⟨v4, rfl, hR, hb⟩; obtain ⟨A4, c4, rfl⟩ := Kd.R_slice hR; have HB4 := Aside0.mk hb; clear hR hb HK)
    | (go_at_call 34; refine (heap_Init0.calls _ _ _ _ ((blk_cell (blk_new _ _) 0).trans rfl)).mono ?_; rintro e w5 ⟨rfl, rfl⟩))
  go_step3
  go_wp2
  obtain ⟨w5, hw5⟩ : ∃ X, X = w4.alloc (.cells #[.slice A4 0 c4] 55) := ⟨_, rfl⟩
  have hc5 : w5.cell? ⟨w4.heap.size, 0, none⟩ = some (.slice A4 0 c4) := by rw [hw5]; exact (blk_cell (blk_new _ _) 0).trans rfl
  have HB5 : Aside0 (Below w.heap.size w w5) := ⟨by rw [hw5]; exact below_alloc HB4.out _⟩
  rw [← hw5]
  clear hw5
  go_loopg [7, 8] 1 (fun gg v7 v8 wr => v7 = .slice none 0 0 ∧ v8 = .slice none 0 0 ∧ wr = w5 ∧ 0 < gg)
  case atStart => exact ⟨rfl, rfl, rfl, by omega⟩
  case round =>
    obtain ⟨rfl, rfl, rfl, hg⟩ := hrel
    go_wp2_with (go_at_call 35; refine (queue_Len.calls _ _ _ _).mono ?_; rintro e w6 ⟨rfl, rfl⟩)
    rw [Exit.noGoto_ret]
    go_ret2
    exact ⟨rfl, HB5.out⟩

/-- All of them, as one law. -/
theorem beat_ordered.all (A : Option Addr) (c : Nat) (l : List S24) (km : Nat) (cap : Array Value) (p : S24 → Bool) (w : World) (hC : Kd.C k24 w A l.length l) (hl : l.length ≤ 8796093022000)
    (eK : ∀ args w, (callFunc km args).run Try.prog w = .ok (.enter km args) w)
    (hmay : ∀ (X : World) (x : S24), (∀ k, k < w.heap.size → X.heap[k]? = w.heap[k]?) → Calls Try.prog km (#[.agg #[.int .i64 x.f0, .int .i64 x.f1]] ++ cap) X fun e w' => e = .returned (.bool (p x)) ∧ Below X.heap.size X w') :
    Calls Try.prog 25 #[.slice A l.length c, .func (.func km) #[] cap] w fun e w' => ∃ v1 v2 : Value, e = .returned (.tuple #[v1, v2]) ∧ Kd.R k24 24 w' w.heap.size (fun k_ => some k_ ≠ v2.ownBlock) v1 ((sortedL l).filter p) ∧ Kd.R k24 24 w' w.heap.size (fun k_ => some k_ ≠ v1.ownBlock) v2 ((sortedL l).filter fun x => !p x) ∧ Below w.heap.size w w' := by
  cases l with
  | nil =>
    refine (beat_ordered.of_none A c km cap w hC).mono ?_
    rintro e w' ⟨rfl, hb⟩
    exact ⟨_, _, rfl, Kd.R_nil _ _ _ _ _, Kd.R_nil _ _ _ _ _, hb⟩
  | cons x l => exact beat_ordered.calls A c (x :: l) km cap p w hC hl (by simp) eK hmay

theorem eK26 : ∀ args w, (callFunc 26 args).run Try.prog w = .ok (.enter 26 args) w := enters_at Try.func26 (by kernel_rfl) rfl
theorem eK29 : ∀ args w, (callFunc 29 args).run Try.prog w = .ok (.enter 29 args) w := enters_at Try.func29 (by kernel_rfl) rfl
theorem eK30 : ∀ args w, (callFunc 30 args).run Try.prog w = .ok (.enter 30 args) w := enters_at Try.func30 (by kernel_rfl) rfl

set_option maxHeartbeats 8000000 in
set_option maxRecDepth 100000 in
theorem beat_Take1.calls (x0 x1 now : Int) (b : Nat) (w : World) (hb : w.cell? ⟨b, 0, none⟩ = some (.int .i64 now)) (hlt : b < w.heap.size) :
    Calls Try.prog 26 #[.agg #[.int .i64 x0, .int .i64 x1], .pointer (some ⟨b, 0, none⟩)] w fun e w' => e = .returned (.bool (decide (x0 ≤ now))) ∧ Below w.heap.size w w' := by
  have hu24 := Try.underlying24
  have hb2 : (w.alloc (.cells #[.int .i64 x0, .int .i64 x1] 24)).cell? ⟨b, 0, none⟩ = some (.int .i64 now) := ((below_alloc (Below.refl w.heap.size w) _).cell (p := ⟨b, 0, none⟩) hlt).trans hb
  clear hb
  go_enter Try.func26, Try.ntmps26
  go_wp2
  go_ret
  exact ⟨rfl, below_alloc (Below.refl _ _) _⟩
set_option maxHeartbeats 8000000 in
set_option maxRecDepth 100000 in
theorem beat_Drop1.calls (x0 x1 id : Int) (b : Nat) (w : World) (hb : w.cell? ⟨b, 0, none⟩ = some (.int .i64 id)) (hlt : b < w.heap.size) :
    Calls Try.prog 30 #[.agg #[.int .i64 x0, .int .i64 x1], .pointer (some ⟨b, 0, none⟩)] w fun e w' => e = .returned (.bool (x1 == id)) ∧ Below w.heap.size w w' := by
  have hu24 := Try.underlying24
  have hb2 : (w.alloc (.cells #[.int .i64 x0, .int .i64 x1] 24)).cell? ⟨b, 0, none⟩ = some (.int .i64 id) := ((below_alloc (Below.refl w.heap.size w) _).cell (p := ⟨b, 0, none⟩) hlt).trans hb
  clear hb
  go_enter Try.func30, Try.ntmps30
  go_wp2
  go_ret
  exact ⟨rfl, below_alloc (Below.refl _ _) _⟩
set_option maxHeartbeats 8000000 in
set_option maxRecDepth 100000 in
theorem beat_Set1.calls (x0 x1 : Int) (w : World) :
    Calls Try.prog 29 #[.agg #[.int .i64 x0, .int .i64 x1]] w fun e w' => e = .returned (.bool true) ∧ Below w.heap.size w w' := by
  go_enter Try.func29, Try.ntmps29
  go_wp2
  go_ret
  exact ⟨rfl, by first | exact Below.refl _ _ | exact below_alloc (Below.refl _ _) _⟩
end Go.Proofs.Yteomnodigfcfeaa.Q
