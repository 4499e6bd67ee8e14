/- num.Put at one byte, text.Short, names.Up: what they compute, and that their calls do so. -/
import Derived.Test.YtobdcmgdodahgaaDoorH28
namespace Go.Proofs.YtobdcmgdodahgaaDoor.Q
open Go.RowKit Go.Proofs.YtobdcmgdodahgaaDoorW.PrintWords Go.Proofs.YtobdcmgdodahgaaDoorW.PrintLast Go.Proofs.YtobdcmgdodahgaaDoorW.PrintMore
set_option linter.unusedVariables false
set_option linter.unusedSimpArgs false
open Go.Sort

set_option maxHeartbeats 4000000 in
set_option maxRecDepth 100000 in
theorem slices_Index_47.hit (g n : Nat) (v : Int) (w : World) (hn : 0 < n) (hm : n ≤ 9223372036854775807) (hc : w.cell? ⟨g, 0, none⟩ = some (.int .i64 v)) :
    Calls Tryd.prog 47 #[.slice (some ⟨g, 0, none⟩) n n, .int .i64 v] w fun e w' => e = .returned (.int .i64 0) ∧ Below w.heap.size w w' := by
  have hlt : (0 : Int) < (n : Int) := by omega
  go_enter Tryd.func47, Tryd.ntmps47
  go_wp2
  go_loopg [8] 1 (fun gg v8 wr => v8 = .int .i64 0 ∧ wr = w)
  case atStart => exact ⟨rfl, rfl⟩
  case round =>
    obtain ⟨rfl, rfl⟩ := hrel
    go_wp2
    go_ret
    exact ⟨rfl, Below.refl _ _⟩

set_option maxRecDepth 100000 in
theorem slices_Contains_46.hit (g n : Nat) (v : Int) (w : World) (hn : 0 < n) (hm : n ≤ 9223372036854775807) (hc : w.cell? ⟨g, 0, none⟩ = some (.int .i64 v)) :
    Calls Tryd.prog 46 #[.slice (some ⟨g, 0, none⟩) n n, .int .i64 v] w fun e w' => e = .returned (.bool true) ∧ Below w.heap.size w w' := by
  go_enter Tryd.func46, Tryd.ntmps46
  go_wp2_with (go_at_call 47; refine (slices_Index_47.hit g n v _ hn hm hc).mono ?_; rintro e w' ⟨rfl, hb⟩; have HB := Aside0.mk hb; clear hb)
  go_ret
  exact ⟨rfl, HB.out⟩

theorem gWidths : Tryd.prog.globalNamed "interchange/num.widths" = some 1 := by kernel_rfl

set_option maxRecDepth 100000 in
theorem num_width.calls (w : World) (hT : Tabs w) :
    Calls Tryd.prog 43 #[.int .i64 1] w fun e w' => e = .returned (.bool true) ∧ Below w.heap.size w w' := by
  have hc : w.cell? ⟨1, 0, none⟩ = some (.int .i64 1) := by
    have := hT.d.cell gWidths 0 (by decide)
    simpa using this
  have hal : Tryd.prog.arrayLen 82 = 4 := by simp [Program.arrayLen, Tryd.underlying82]
  go_enter Tryd.func43, Tryd.ntmps43
  go_wp2_with (go_at_call 46; refine (slices_Contains_46.hit 1 4 1 _ (by decide) (by decide) hc).mono ?_; rintro e w' ⟨rfl, hb⟩; have HB := Aside0.mk hb; clear hb)
  go_ret
  exact ⟨rfl, HB.out⟩

set_option maxHeartbeats 4000000 in
set_option maxRecDepth 100000 in
theorem num_Put.big (v : Nat) (hv : v < 18446744073709551616) (h8 : 256 ≤ v) (w : World) (hT : Tabs w) :
    Calls Tryd.prog 37 #[.int .i64 1, .int .u64 (v : Int)] w fun e w' => e = .returned (.tuple #[.string ⟨#[]⟩, .int .i64 4]) ∧ Below w.heap.size w w' := by
  have h1 : (v : Int) / 256 ≠ 0 := by omega
  have h2 : ((v : Int) / 256 != 0) = true := by simpa using h1
  go_enter Tryd.func37, Tryd.ntmps37
  go_wp2_with (go_at_call 43; refine (num_width.calls _ hT).mono ?_; rintro e w' ⟨rfl, hb⟩; have HB := Aside0.mk hb; clear hb)
  go_ret2
  exact ⟨rfl, HB.out⟩

theorem make1 (W : World) : (Instr.makeSlice 63 (.int .i64 1) (.int .i64 1)).run Tryd.prog W = .ok (.slice (some ⟨W.heap.size, 0, none⟩) 1 1) (W.alloc (.cells #[.int .u8 0] 5)) := by
  obtain ⟨i0, hi, hzz⟩ := Option.map_eq_some_iff.1 info5
  simp only [Prod.mk.injEq] at hzz
  obtain ⟨hz0, hz1, hz2⟩ := hzz
  rw [run_makeSlice (P := Tryd.prog) W 63 5 i0 (.int .u8 0) Tryd.underlying63 hi hz0 .i64 .i64 1 1 (by decide) (by decide) (by rw [hz1]; decide) (by rw [hz2]; decide) (by decide), hz1]
  rw [show madeCells (Value.int IntKind.u8 0).cells (Int.toNat 1 * 1) = #[.int .u8 0] by simp [madeCells, Value.cells]; exact ⟨0, by decide, by simp⟩]
  rfl

set_option maxHeartbeats 4000000 in
set_option maxRecDepth 100000 in
theorem num_Put.small (v : Nat) (h8 : v < 256) (w : World) (hT : Tabs w) :
    Calls Tryd.prog 37 #[.int .i64 1, .int .u64 (v : Int)] w fun e w' => ∃ s : ByteArray, e = .returned (.tuple #[.string s, .int .i64 0]) ∧ s.size = 1 ∧ Below w.heap.size w w' := by
  have h1 : (v : Int) / 256 = 0 := by omega
  have h2 : ((v : Int) / 256 != 0) = false := by simpa using h1
  have hmk := make1
  have hvm : (v : Int) % 256 = v := by omega
  go_enter Tryd.func37, Tryd.ntmps37
  go_wp2_with (go_at_call 43; refine (num_width.calls _ hT).mono ?_; rintro e w' ⟨rfl, hb⟩; have HB := Aside0.mk hb; clear hb)
  go_loopg [27] 1 (fun gg v27 wr => ∃ (k : Nat) (x : Nat), k ≤ 1 ∧ 1 - k ≤ gg ∧ v27 = .int .i64 k ∧ wr = w'.alloc (.cells #[.int .u8 (x : Int)] 5) ∧ x < 256)
  case atStart => exact ⟨0, 0, by omega, by omega, rfl, rfl, by omega⟩
  case round =>
    obtain ⟨k, x, hk, hg, rfl, rfl, hx⟩ := hrel
    by_cases hk1 : k < 1
    · obtain rfl : k = 0 := by omega
      go_wp2
      go_roundg 0
      case measure => omega
      case rel => exact ⟨1, v, by omega, by omega, by go_num, rfl, h8⟩
    · obtain rfl : k = 1 := by omega
      have hcv : (convert 63 9 (.slice (some ⟨w'.heap.size, 0, none⟩) 1 1)).run Tryd.prog (w'.alloc (.cells #[.int .u8 (x : Int)] 5)) = .ok (.string ⟨#[UInt8.ofNat x]⟩) (w'.alloc (.cells #[.int .u8 (x : Int)] 5)) := by
        have h := run_convert_bytes_back (P := Tryd.prog) (w'.alloc (.cells #[.int .u8 (x : Int)] 5)) 63 9 5 ⟨w'.heap.size, 0, none⟩ 1 [UInt8.ofNat x] Tryd.underlying63 Tryd.underlying5 Tryd.underlying9 (fun j hj => by
          have : j = 0 := by simpa using hj
          subst this
          rw [Lib.add_plain, World.cell?_alloc_new]
          simp [UInt8.toNat_ofNat', Nat.mod_eq_of_lt hx])
        exact h
      go_wp2
      go_ret2
      exact ⟨_, rfl, rfl, below_alloc HB.out _⟩

set_option maxHeartbeats 4000000 in
set_option maxRecDepth 100000 in
theorem kind_lay.calls (s : ByteArray) (hs : s.size ≤ 9223372036854775000) (w : World) (hT : Tabs w) :
    Calls Tryd.prog 31 #[.int .i64 1, .string s] w fun e w' => ∃ r : ByteArray, e = .returned (.tuple #[.string r, .int .i64 (if 256 ≤ s.size then 4 else 0)]) ∧ Below w.heap.size w w' := by
  have hm : s.size ≤ 9223372036854775807 := by omega
  by_cases h8 : 256 ≤ s.size
  · rw [if_pos h8]
    have hcall := num_Put.big s.size (by omega) h8
    clear h8
    generalize hz : s.size = z at *
    go_enter Tryd.func31, Tryd.ntmps31
    go_wp2_with (go_at_call 37; refine (hcall _ hT).mono ?_; rintro e w' ⟨rfl, hb⟩; have HB := Aside0.mk hb; clear hb)
    all_goals (try go_quiet (fail))
    all_goals (try go_wp2)
    go_ret2
    exact ⟨_, rfl, HB.out⟩
  · rw [if_neg h8]
    have hcall := num_Put.small s.size (by omega)
    have hsum : ∀ r : ByteArray, r.size = 1 → ¬ (9223372036854775807 : Nat) < r.size + s.size := fun r hr => by omega
    go_enter Tryd.func31, Tryd.ntmps31
    go_wp2_with (go_at_call 37; refine (hcall _ hT).mono ?_; rintro e w' ⟨r, rfl, hr, hb⟩; have HB := Aside0.mk hb; clear hb; have hsr := hsum r hr)
    all_goals (try go_quiet (fail))
    all_goals (try go_wp2)
    go_ret2
    exact ⟨_, rfl, HB.out⟩

set_option maxRecDepth 100000 in
theorem text_Short.calls (s : ByteArray) (hs : s.size ≤ 9223372036854775000) (w : World) (hT : Tabs w) :
    Calls Tryd.prog 26 #[.string s] w fun e w' => ∃ r : ByteArray, e = .returned (.tuple #[.string r, .int .i64 (if 256 ≤ s.size then 4 else 0)]) ∧ Below w.heap.size w w' := by
  have hcall := kind_lay.calls s hs
  generalize (if 256 ≤ s.size then (4 : Int) else 0) = c at hcall ⊢
  go_enter Tryd.func26, Tryd.ntmps26
  go_wp2_with (go_at_call 31; refine (hcall _ hT).mono ?_; rintro e w' ⟨r, rfl, hb⟩; have HB := Aside0.mk hb; clear hb)
  go_ret2
  exact ⟨_, rfl, HB.out⟩

/-- The broker's name. -/
def upS (who : Int) (mine : ByteArray) : ByteArray := (⟨(Lib.decDigits who.toNat).toArray⟩ : ByteArray) ++ ⟨#[47]⟩ ++ mine
def names_Up.f (a0 : Int) (a1 : ByteArray) : Option (ByteArray × Int) :=
  if a0 < 1 ∨ a1.toList = [] then some (⟨#[]⟩, 1)
  else if 9223372036854775807 < a0 then none
  else if (upS a0 a1).size ≤ 9223372036854775000 then (if 256 ≤ (upS a0 a1).size then some (⟨#[]⟩, 4) else some (upS a0 a1, 0)) else none

theorem itoa_toNat (n : Int) (h : 0 ≤ n) : Lib.itoa n = Lib.decDigits n.toNat := by
  obtain ⟨u, rfl⟩ : ∃ u : Nat, n = u := ⟨n.toNat, by omega⟩
  rw [Lib.itoa_nonneg]; rfl

set_option maxHeartbeats 4000000 in
set_option maxRecDepth 100000 in
theorem names_Up.calls (a0 : Int) (a1 : ByteArray) (r1 : ByteArray) (r2 : Int) (w : World) (hT : Aside0 (Tabs w)) (h : names_Up.f a0 a1 = some (r1, r2)) :
    Calls Tryd.prog 16 #[.int .i64 a0, .string a1] w fun e w' => e = .returned (.tuple #[.string r1, .int .i64 r2]) ∧ Below w.heap.size w w' := by
  unfold names_Up.f at h
  by_cases c1 : a0 < 1
  · rw [if_pos (Or.inl c1)] at h
    simp only [Option.some.injEq, Prod.mk.injEq] at h
    obtain ⟨rfl, rfl⟩ := h
    go_enter Tryd.func16, Tryd.ntmps16
    go_wp2
    go_ret2
    exact ⟨rfl, Below.refl _ _⟩
  · by_cases c2 : a1.toList = []
    · rw [if_pos (Or.inr c2)] at h
      simp only [Option.some.injEq, Prod.mk.injEq] at h
      obtain ⟨rfl, rfl⟩ := h
      have c2b : (a1.toList == ([] : List UInt8)) = true := beq_iff_eq.2 c2
      go_enter Tryd.func16, Tryd.ntmps16
      go_wp2
      go_ret2
      exact ⟨rfl, Below.refl _ _⟩
    · rw [if_neg (by intro hh; exact hh.elim c1 c2)] at h
      have c2b : (a1.toList == ([] : List UInt8)) = false := beq_eq_false_iff_ne.2 c2
      have hr : a0 ≤ 9223372036854775807 := by
        by_cases hb : 9223372036854775807 < a0
        · rw [if_pos hb] at h; cases h
        · omega
      rw [if_neg (by omega)] at h
      by_cases hsz : (upS a0 a1).size ≤ 9223372036854775000
      · rw [if_pos hsz] at h
        have hIt := Tryd.strconv_Itoa a0 (by omega) hr
        have hS := text_Short.calls (upS a0 a1) hsz
        have hsd : (upS a0 a1).size = (Lib.decDigits a0.toNat).length + 1 + a1.size := by
          unfold upS
          simp [ByteArray.size_append]
          rfl
        have hlt1 : ¬ (9223372036854775807 : Nat) < (⟨(Lib.decDigits a0.toNat).toArray⟩ : ByteArray).size + 1 := by
          show ¬ _ < (Lib.decDigits a0.toNat).toArray.size + 1
          simp; omega
        rw [itoa_toNat a0 (by omega)] at hIt
        by_cases h8 : 256 ≤ (upS a0 a1).size
        · rw [if_pos h8] at h hS
          simp only [Option.some.injEq, Prod.mk.injEq] at h
          obtain ⟨rfl, rfl⟩ := h
          clear h8
          go_enter Tryd.func16, Tryd.ntmps16
          go_wp2_with (first
            | (go_at_call 25; refine (hIt _ hT.out.p).mono ?_; rintro e w1 ⟨rfl, k, os, rfl⟩; have HB := Aside0.mk (Lib.below_grow w.heap.size w (Nat.le_refl _) k os); generalize grow (w.drewN k) os = w1 at HB ⊢)
            | (go_at_call 26; refine (hS _ (hT.out.below HB.out)).mono ?_; rintro e w2 ⟨r, rfl, hb⟩; have HB2 := Aside0.mk (HB.out.trans (hb.mono HB.out.size)); clear hb))
          go_ret2
          exact ⟨rfl, HB2.out⟩
        · rw [if_neg h8] at h hS
          simp only [Option.some.injEq, Prod.mk.injEq] at h
          obtain ⟨rfl, rfl⟩ := h
          clear h8
          go_enter Tryd.func16, Tryd.ntmps16
          go_wp2_with (first
            | (go_at_call 25; refine (hIt _ hT.out.p).mono ?_; rintro e w1 ⟨rfl, k, os, rfl⟩; have HB := Aside0.mk (Lib.below_grow w.heap.size w (Nat.le_refl _) k os); generalize grow (w.drewN k) os = w1 at HB ⊢)
            | (go_at_call 26; refine (hS _ (hT.out.below HB.out)).mono ?_; rintro e w2 ⟨r, rfl, hb⟩; have HB2 := Aside0.mk (HB.out.trans (hb.mono HB.out.size)); clear hb))
          go_ret2
          exact ⟨rfl, HB2.out⟩
      · rw [if_neg hsz] at h
        cases h
end Go.Proofs.YtobdcmgdodahgaaDoor.Q
