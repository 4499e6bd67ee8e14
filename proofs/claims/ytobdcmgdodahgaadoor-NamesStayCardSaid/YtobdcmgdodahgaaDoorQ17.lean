/- This text was written by a program of this session: what each Go function computes, as a Lean function, and that its call does so. -/
import Derived.Test.YtobdcmgdodahgaaDoorQ0
import Derived.Test.YtobdcmgdodahgaaDoorQ27
namespace Go.Proofs.YtobdcmgdodahgaaDoor.Q
open Go.RowKit Go.Proofs.YtobdcmgdodahgaaDoorW.PrintWords Go.Proofs.YtobdcmgdodahgaaDoorW.PrintLast Go.Proofs.YtobdcmgdodahgaaDoorW.PrintMore
attribute [local go_sem] max2_int min2_int max_two min_two max_three min_three max_four min_four   -- for this text's walks alone
set_option linter.unusedVariables false
set_option linter.unusedSimpArgs false

/-! ### interchangeref17_Up: function 17 -/
def interchangeref17_Up.j0 : Nat → Int → ByteArray → Bool → Option (ByteArray × Int)
  | 0, _, _, _ => none
  | k + 1, x0, x1, x12 => if x12 = true then (some ((⟨#[]⟩ : ByteArray), 1)) else ((interchangeref17_figures.f k (IntKind.u64.wrap (x0))).bind fun t127 => (if t127.size + 1 ≤ 9223372036854775807 then (if (t127 ++ (⟨#[47]⟩ : ByteArray)).size + x1.size ≤ 9223372036854775807 then (if (((t127 ++ (⟨#[47]⟩ : ByteArray)) ++ x1).size : Int) > 255 then (some ((⟨#[]⟩ : ByteArray), 4)) else (some ((t127 ++ (⟨#[47]⟩ : ByteArray)) ++ x1, 0))) else (none)) else (none)))
def interchangeref17_Up.f (k : Nat) (a0 : Int) (a1 : ByteArray) : Option (ByteArray × Int) := if a0 < 1 then (interchangeref17_Up.j0 k a0 a1 true) else (interchangeref17_Up.j0 k a0 a1 (a1.toList == ([] : List UInt8)))
theorem interchangeref17_Up.mono_l : ∀ k, (∀ y0 y1 y2, LeO (interchangeref17_Up.j0 k y0 y1 y2) (interchangeref17_Up.j0 (k + 1) y0 y1 y2))
  | 0 => fun _ _ _ r h => by simp [interchangeref17_Up.j0] at h
  | k + 1 => by
    have ih0 := interchangeref17_Up.mono_l k
    · intro y0 y1 y2
      unfold interchangeref17_Up.j0
      repeat' first
      | (with_reducible exact ih0 _ _ _)
      | (with_reducible exact interchangeref17_figures.mono _ _)
      | (with_reducible exact LeO.refl _)
      | (with_reducible exact LeO.none _)
      | (with_reducible refine LeO.ite ?_ ?_)
      | (with_reducible refine LeO.bind ?_ (fun _ => ?_))
      | exact ih0 _ _ _
      | exact interchangeref17_figures.mono _ _
      | exact LeO.none _
      | refine LeO.ite ?_ ?_
      | refine LeO.bind ?_ (fun _ => ?_)
theorem interchangeref17_Up.mono : ∀ a0 a1 k, LeO (interchangeref17_Up.f k a0 a1) (interchangeref17_Up.f (k + 1) a0 a1) := by
  intro a0 a1 k
  have ih0 := interchangeref17_Up.mono_l k
  unfold interchangeref17_Up.f
  repeat' first
      | (with_reducible exact ih0 _ _ _)
      | (with_reducible exact interchangeref17_figures.mono _ _)
      | (with_reducible exact LeO.refl _)
      | (with_reducible exact LeO.none _)
      | (with_reducible refine LeO.ite ?_ ?_)
      | (with_reducible refine LeO.bind ?_ (fun _ => ?_))
      | exact ih0 _ _ _
      | exact interchangeref17_figures.mono _ _
      | exact LeO.none _
      | refine LeO.ite ?_ ?_
      | refine LeO.bind ?_ (fun _ => ?_)
set_option maxHeartbeats 8000000 in
set_option maxRecDepth 100000 in
theorem interchangeref17_Up.calls (k : Nat) (a0 : Int) (a1 : ByteArray) (r1 : ByteArray) (r2 : Int) (w : World) (h : interchangeref17_Up.f k a0 a1 = some (r1, r2)) :
    Calls Tryd.prog 17 #[.int .i64 a0, .string a1] w fun e w' => e = .returned (.tuple #[.string r1, .int .i64 r2]) ∧ Below w.heap.size w w' := by
  have HB := Aside0.mk (Below.refl w.heap.size w)
  have H : (if a0 < 1 then (interchangeref17_Up.j0 k a0 a1 true) else (interchangeref17_Up.j0 k a0 a1 (a1.toList == ([] : List UInt8)))) = some (r1, r2) := h
  clear h
  have HC3 := Aside0.mk H
  clear H
  go_enter Tryd.func17, Tryd.ntmps17
  go_upto_region 1 with (fail)
  go_cut [12] (fun v12 wc => ∃ (kq : Nat) (x12_2 : Bool), v12 = .bool x12_2 ∧ Aside0 (interchangeref17_Up.j0 kq a0 a1 x12_2 = some (r1, r2)) ∧ Aside0 (kq ≤ k) ∧ Aside0 (Below w.heap.size w wc))
  case first =>
    have H := HC3.out
    clear HC3
    by_cases c4 : a0 < 1
    · rw [if_pos c4] at H
      have c4b0 : decide (a0 < 1) = true := decide_eq_true c4
      clear c4
      (first | rw [c4b0] | (simp only [i64_w, i32_w]; rw [c4b0]) | skip)
      have H' := Aside0.mk H
      clear H
      go_wp2
      go_meet
      case rel => exact ⟨_, (true), (by first | rfl | (simp; done) | (simp [*]; done)), H', ⟨by first | omega | exact Nat.le_refl _⟩, ⟨by repeat (first | (with_reducible first | exact HB.out | apply below_alloc | apply pw_below_drewN | apply below_drew1) | exact HB.out)⟩⟩
    · rw [if_neg c4] at H
      have c4b0 : decide (a0 < 1) = false := decide_eq_false c4
      clear c4
      (first | rw [c4b0] | (simp only [i64_w, i32_w]; rw [c4b0]) | skip)
      have H' := Aside0.mk H
      clear H
      go_wp2
      go_meet
      case rel => exact ⟨_, ((a1.toList == ([] : List UInt8))), (by first | rfl | (simp; done) | (simp [*]; done)), H', ⟨by first | omega | exact Nat.le_refl _⟩, ⟨by repeat (first | (with_reducible first | exact HB.out | apply below_alloc | apply pw_below_drewN | apply below_drew1) | exact HB.out)⟩⟩
  case rest =>
    clear HC3
    try clear c1
    try clear p2
    try clear c4
    try clear c4b0
    obtain ⟨kq, x12_2, rfl, HA, HJ2, HB⟩ := hcut
    cases kq with
    | zero => exact absurd HA.out (by simp [interchangeref17_Up.j0])
    | succ kj2 =>
      have H := HA.out
      clear HA
      simp only [interchangeref17_Up.j0] at H
      by_cases c5 : x12_2 = true
      · subst c5
        have H1 : (some ((⟨#[]⟩ : ByteArray), 1)) = some (r1, r2) := by rw [if_pos rfl] at H; exact H
        clear H
        have H := H1
        clear H1
        simp only [Option.some.injEq, Prod.mk.injEq] at H
        obtain ⟨rfl, rfl⟩ := H
        go_wp2
        go_ret2
        exact ⟨by first | rfl | (simp [errW_none, errW_some] <;> rfl) | (simp [*, errW_none, errW_some] <;> rfl), by repeat (first | (with_reducible first | exact HB.out | apply below_alloc | apply pw_below_drewN | apply below_drew1) | exact HB.out)⟩
      · replace c5 := Bool.eq_false_iff.mpr c5
        subst c5
        have H1 : ((interchangeref17_figures.f kj2 (IntKind.u64.wrap (a0))).bind fun t127 => (if t127.size + 1 ≤ 9223372036854775807 then (if (t127 ++ (⟨#[47]⟩ : ByteArray)).size + a1.size ≤ 9223372036854775807 then (if (((t127 ++ (⟨#[47]⟩ : ByteArray)) ++ a1).size : Int) > 255 then (some ((⟨#[]⟩ : ByteArray), 4)) else (some ((t127 ++ (⟨#[47]⟩ : ByteArray)) ++ a1, 0))) else (none)) else (none))) = some (r1, r2) := by rw [if_neg (show ¬ (false = true) by decide)] at H; exact H
        clear H
        have H := H1
        clear H1
        replace H := Option.bind_eq_some_iff.mp H
        obtain ⟨t127, A60, H⟩ := H
        replace H : (if t127.size + 1 ≤ 9223372036854775807 then (if (t127 ++ (⟨#[47]⟩ : ByteArray)).size + a1.size ≤ 9223372036854775807 then (if (((t127 ++ (⟨#[47]⟩ : ByteArray)) ++ a1).size : Int) > 255 then (some ((⟨#[]⟩ : ByteArray), 4)) else (some ((t127 ++ (⟨#[47]⟩ : ByteArray)) ++ a1, 0))) else (none)) else (none)) = some (r1, r2) := H
        have A6 := Aside0.mk A60
        clear A60
        by_cases c7 : t127.size + 1 ≤ 9223372036854775807
        · rw [if_pos c7] at H
          have c7b0 := eq_true c7
          have c7b1 : decide (t127.size + 1 ≤ 9223372036854775807) = true := decide_eq_true c7
          try have c7b2 : (9223372036854775807 < t127.size + 1) = False := eq_false (Nat.not_lt.2 c7)
          by_cases c8 : (t127 ++ (⟨#[47]⟩ : ByteArray)).size + a1.size ≤ 9223372036854775807
          · rw [if_pos c8] at H
            have c8b0 := eq_true c8
            have c8b1 : decide ((t127 ++ (⟨#[47]⟩ : ByteArray)).size + a1.size ≤ 9223372036854775807) = true := decide_eq_true c8
            try have c8b2 : (9223372036854775807 < (t127 ++ (⟨#[47]⟩ : ByteArray)).size + a1.size) = False := eq_false (Nat.not_lt.2 c8)
            by_cases c9 : (((t127 ++ (⟨#[47]⟩ : ByteArray)) ++ a1).size : Int) > 255
            · rw [if_pos c9] at H
              have c9b0 : decide (255 < (((t127 ++ (⟨#[47]⟩ : ByteArray)) ++ a1).size : Int)) = true := decide_eq_true c9
              have c9b1 : decide (255 < ((t127 ++ (⟨#[47]⟩ : ByteArray)) ++ a1).size) = true := decide_eq_true (by omega)
              have c9s : (((t127 ++ (⟨#[47]⟩ : ByteArray)) ++ a1).size : Int) = (t127.size : Int) + 1 + (a1.size : Int) := by rw [ByteArray.size_append, ByteArray.size_append]; rfl
              have c9b2 : decide (255 < (t127.size : Int) + 1 + (a1.size : Int)) = true := by rw [← c9s]; exact c9b0
              clear c9s
              clear c9
              simp only [Option.some.injEq, Prod.mk.injEq] at H
              obtain ⟨rfl, rfl⟩ := H
              go_wp2_with (first | ((with_reducible refine gate_callee (f := 27) rfl ?_); refine goesL_ (some 15) rfl rfl Tryd.func27 (by kernel_rfl) rfl #[.int .u64 (IntKind.u64.wrap (a0))] rfl (by (try simp only [List.map_toArray, List.map_cons, List.map_nil]); first | done | rfl | (simp only [List.length_drop, List.length_take]; rfl)) ?_; (with_reducible refine (interchangeref17_figures.calls kj2 (IntKind.u64.wrap (a0)) t127 _ A6.out).mono ?_); rintro e w10 ⟨rfl, hb⟩; refine ⟨_, rfl, ?_⟩; have n0_ := Aside0.mk (below_step (by repeat (first | (with_reducible first | exact HB.out | apply below_alloc | apply pw_below_drewN | apply below_drew1) | exact HB.out)) hb); clear HB; have HB := n0_; clear n0_; (try clear hb); (try clear hb2); (try clear hk); (try clear hi)))
              go_ret2
              exact ⟨by first | rfl | (simp [errW_none, errW_some] <;> rfl) | (simp [*, errW_none, errW_some] <;> rfl), by repeat (first | (with_reducible first | exact HB.out | apply below_alloc | apply pw_below_drewN | apply below_drew1) | exact HB.out)⟩
            · rw [if_neg c9] at H
              have c9b0 : decide (255 < (((t127 ++ (⟨#[47]⟩ : ByteArray)) ++ a1).size : Int)) = false := decide_eq_false c9
              have c9b1 : decide (255 < ((t127 ++ (⟨#[47]⟩ : ByteArray)) ++ a1).size) = false := decide_eq_false (by omega)
              have c9s : (((t127 ++ (⟨#[47]⟩ : ByteArray)) ++ a1).size : Int) = (t127.size : Int) + 1 + (a1.size : Int) := by rw [ByteArray.size_append, ByteArray.size_append]; rfl
              have c9b2 : decide (255 < (t127.size : Int) + 1 + (a1.size : Int)) = false := by rw [← c9s]; exact c9b0
              clear c9s
              clear c9
              simp only [Option.some.injEq, Prod.mk.injEq] at H
              obtain ⟨rfl, rfl⟩ := H
              go_wp2_with (first | ((with_reducible refine gate_callee (f := 27) rfl ?_); refine goesL_ (some 15) rfl rfl Tryd.func27 (by kernel_rfl) rfl #[.int .u64 (IntKind.u64.wrap (a0))] rfl (by (try simp only [List.map_toArray, List.map_cons, List.map_nil]); first | done | rfl | (simp only [List.length_drop, List.length_take]; rfl)) ?_; (with_reducible refine (interchangeref17_figures.calls kj2 (IntKind.u64.wrap (a0)) t127 _ A6.out).mono ?_); rintro e w11 ⟨rfl, hb⟩; refine ⟨_, rfl, ?_⟩; have n0_ := Aside0.mk (below_step (by repeat (first | (with_reducible first | exact HB.out | apply below_alloc | apply pw_below_drewN | apply below_drew1) | exact HB.out)) hb); clear HB; have HB := n0_; clear n0_; (try clear hb); (try clear hb2); (try clear hk); (try clear hi)))
              go_ret2
              exact ⟨by first | rfl | (simp [errW_none, errW_some] <;> rfl) | (simp [*, errW_none, errW_some] <;> rfl), by repeat (first | (with_reducible first | exact HB.out | apply below_alloc | apply pw_below_drewN | apply below_drew1) | exact HB.out)⟩
          · rw [if_neg c8] at H
            exact absurd H (by simp)
        · rw [if_neg c7] at H
          exact absurd H (by simp)

end Go.Proofs.YtobdcmgdodahgaaDoor.Q
