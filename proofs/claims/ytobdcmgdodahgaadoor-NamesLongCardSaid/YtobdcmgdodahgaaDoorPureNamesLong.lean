/- The plain law of NamesLong. -/
import Derived.Test.YtobdcmgdodahgaaDoorL18
import Derived.Test.YtobdcmgdodahgaaDoorH9
import Derived.Lib.IndexBytes
import Derived.Test.YtobdcmgdodahgaaDoorQ6
namespace Go.Proofs.YtobdcmgdodahgaaDoor.Pure
open Go.RowKit Go.Proofs.YtobdcmgdodahgaaDoor.Q Go.Proofs.YtobdcmgdodahgaaDoorW.PrintWords Go.Proofs.YtobdcmgdodahgaaDoorW.PrintLast Go.Proofs.YtobdcmgdodahgaaDoorW.PrintMore
set_option linter.unusedVariables false
set_option linter.unusedSimpArgs false

/-- What is asked behind the loop. -/
def longEnd (s : ByteArray) (u : ByteArray) (e : Int) (n : Int) : Option Bool :=
  if e = 0 then (if true = true then (if (u.size : Int) = (wrap64 ((wrap64 (n + 1)) + (s.size : Int))) then (if (u.size : Int) ≤ 255 then (if 0 ≤ n then (if n < (u.size : Int) then (if (bt u n) = 47 then (if 0 ≤ (wrap64 (n + 1)) then (if (wrap64 (n + 1)) ≤ (u.size : Int) then (some ((u.extract ((wrap64 (n + 1)) : Int).toNat u.size).toList == s.toList)) else (none)) else (none)) else (some false)) else (none)) else (none)) else (some false)) else (some false)) else (some false)) else (if true = true then (if e = 4 then (some (decide ((wrap64 ((wrap64 (n + 1)) + (s.size : Int))) > 255))) else (some false)) else (some false))
theorem Long_l0 (s u : ByteArray) (e : Int) : ∀ (d : Nat) (n w : Nat), n + d ≤ 20 → w < 9223372036854775808 → (if w = 0 then 0 else Lib.nDigits w) = d → Evt (fun _ => longEnd s u e ((n + d : Nat) : Int)) true → Evt (fun k => interchangelaw17_NamesLong.l0 k s true u e n w) true
  | 0, n, w, hn, hw, hd, hend => by
    have h0 : w = 0 := by
      by_cases h : w = 0
      · exact h
      · rw [if_neg h] at hd
        have := Lib.nDigits_pos w
        omega
    subst h0
    refine Evt.succ (fun k => ?_) hend
    simp only [interchangelaw17_NamesLong.l0]
    rw [if_neg (by decide)]
    rfl
  | d + 1, n, w, hn, hw, hd, hend => by
    have h0 : w ≠ 0 := by
      intro h
      rw [if_pos h] at hd
      omega
    rw [if_neg h0] at hd
    have hw10 : wrap64 (Int.tdiv (w : Int) 10) = ((w / 10 : Nat) : Int) := by
      have : Int.tdiv (w : Int) 10 = ((w / 10 : Nat) : Int) := rfl
      rw [this]; unfold wrap64; omega
    have hn1 : wrap64 ((n : Int) + 1) = ((n + 1 : Nat) : Int) := by unfold wrap64; omega
    have hd10 : (if w / 10 = 0 then 0 else Lib.nDigits (w / 10)) = d := by
      by_cases h : w < 10
      · rw [Lib.nDigits_small h] at hd
        rw [if_pos (by omega)]; omega
      · rw [Lib.nDigits_big h] at hd
        rw [if_neg (by omega)]; omega
    have ih := Long_l0 s u e d (n + 1) (w / 10) (by omega) (by omega) hd10 (by rw [show n + 1 + d = n + (d + 1) by omega]; exact hend)
    refine Evt.succ (fun k => ?_) ih
    simp only [interchangelaw17_NamesLong.l0]
    rw [if_pos (by omega), hw10, hn1]
theorem drop_size (a b : ByteArray) : ((a ++ b).extract a.size (a ++ b).size).toList = b.toList := by
  rw [tl_eq, tl_eq, Lib.extract_to_end, ByteArray.data_append, Array.toList_append]
  have : a.size = a.data.toList.length := by rw [Array.length_toList]; rfl
  rw [this, List.drop_left]
theorem NamesLong (a0 : Int) (w0 : (Lit.int .i64 a0).wf = true) (a1 : ByteArray) (w1 : a1.size ≤ 140737488351232) : ∃ k, interchangelaw17_NamesLong.f k a0 a1 = some true := by
  have h0 := i64_wf w0
  have hf : ∀ k x, (interchangelaw17_NamesLong.f k a0 a1 = x ↔ (if a0 < 1 then (interchangelaw17_NamesLong.j0 k a0 a1 true (upR a0 a1).1 (upR a0 a1).2 true) else (interchangelaw17_NamesLong.j0 k a0 a1 true (upR a0 a1).1 (upR a0 a1).2 (a1.toList == ([] : List UInt8)))) = x) := by
    intro k x
    unfold interchangelaw17_NamesLong.f
    rw [interchangelaw17_shown_true, Option.bind_some, up_val a0 a1 h0.2 w1, Option.bind_some]
  have hnil : (⟨#[]⟩ : ByteArray).toList = [] := tl_mk []
  by_cases c1 : a0 < 1
  · refine ⟨1, ?_⟩
    rw [hf, if_pos c1]
    unfold upR
    rw [if_pos (Or.inl c1)]
    simp only [interchangelaw17_NamesLong.j0]
    rw [if_pos trivial, if_pos trivial, if_pos trivial, hnil]
    rfl
  · by_cases c2 : a1.toList = []
    · refine ⟨1, ?_⟩
      rw [hf, if_neg c1, beq_iff_eq.2 c2]
      unfold upR
      rw [if_pos (Or.inr c2)]
      simp only [interchangelaw17_NamesLong.j0]
      rw [if_pos trivial, if_pos trivial, if_pos trivial, hnil]
      rfl
    · obtain ⟨w, rfl⟩ : ∃ w : Nat, a0 = w := ⟨a0.toNat, by omega⟩
      have hd20 : Lib.nDigits w ≤ 20 := by have := dec_len_le w (by omega); rw [Lib.decDigits_length] at this; exact this
      have hsz := upS_size (w : Int) a1
      rw [Int.toNat_natCast, Lib.decDigits_length] at hsz
      have hw1 : wrap64 ((Lib.nDigits w : Int) + 1) = ((Lib.nDigits w + 1 : Nat) : Int) := by unfold wrap64; omega
      have hw2 : wrap64 (((Lib.nDigits w + 1 : Nat) : Int) + (a1.size : Int)) = ((Lib.nDigits w + 1 + a1.size : Nat) : Int) := by unfold wrap64; omega
      have hend : Evt (fun _ => longEnd a1 (upR (w : Int) a1).1 (upR (w : Int) a1).2 ((0 + Lib.nDigits w : Nat) : Int)) true := by
        refine Evt.pure fun _ => ?_
        rw [Nat.zero_add]
        have hu : upR (w : Int) a1 = if 256 ≤ (upS (w : Int) a1).size then (⟨#[]⟩, 4) else (upS (w : Int) a1, 0) := by
          unfold upR
          rw [if_neg (by intro h; rcases h with h | h; exact c1 h; exact c2 h)]
        unfold longEnd
        rw [hu, hw1, hw2]
        by_cases hb : 256 ≤ (upS (w : Int) a1).size
        · rw [if_pos hb]
          dsimp only
          rw [if_neg (by decide), if_pos rfl, if_pos rfl, decide_eq_true (by omega)]
        · rw [if_neg hb]
          dsimp only
          have hA : upS (w : Int) a1 = ((⟨(Lib.decDigits w).toArray⟩ : ByteArray) ++ ⟨#[47]⟩) ++ a1 := rfl
          have hAs : (((⟨(Lib.decDigits w).toArray⟩ : ByteArray) ++ ⟨#[47]⟩)).size = Lib.nDigits w + 1 := by
            rw [ByteArray.size_append, ← tl_len, tl_mk, Lib.decDigits_length]; rfl
          have hbt : bt (upS (w : Int) a1) (Lib.nDigits w : Int) = 47 := by
            unfold bt
            rw [Int.toNat_natCast, dif_pos (by omega)]
            have e : (upS (w : Int) a1)[Lib.nDigits w]'(by omega) = 47 := by
              have hl := upS_list (w : Int) a1
              rw [tl_eq, Int.toNat_natCast] at hl
              have h3 : (upS (w : Int) a1).data.toList[Lib.nDigits w]? = some 47 := by
                rw [hl, List.getElem?_append_right (by rw [Lib.decDigits_length]; exact Nat.le_refl _), Lib.decDigits_length, Nat.sub_self]
                rfl
              have h4 := Lib.data_getElem? (upS (w : Int) a1) (Lib.nDigits w) (by omega)
              rw [h4] at h3
              exact Option.some.inj h3
            rw [e]
            rfl
          rw [if_pos rfl, if_pos rfl, if_pos (by omega), if_pos (by omega), if_pos (by omega), if_pos (by omega), if_pos hbt, if_pos (by omega), if_pos (by omega), Int.toNat_natCast]
          have hdr := drop_size ((⟨(Lib.decDigits w).toArray⟩ : ByteArray) ++ ⟨#[47]⟩) a1
          rw [hAs, ← hA] at hdr
          rw [hdr]
          exact congrArg some (beq_iff_eq.2 rfl)
      obtain ⟨K, hK⟩ := Long_l0 a1 (upR (w : Int) a1).1 (upR (w : Int) a1).2 (Lib.nDigits w) 0 w (by omega) (by omega) (by rw [if_neg (by omega)]) hend
      replace hK : ∀ k, K ≤ k → interchangelaw17_NamesLong.l0 k a1 true (upR (w : Int) a1).1 (upR (w : Int) a1).2 0 w = some true := hK
      refine ⟨K + 1, ?_⟩
      rw [hf, if_neg c1]
      simp only [interchangelaw17_NamesLong.j0]
      rw [if_neg (by rw [beq_iff_eq]; exact c2)]
      exact hK K (Nat.le_refl _)
end Go.Proofs.YtobdcmgdodahgaaDoor.Pure
