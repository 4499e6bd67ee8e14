/- Plain laws of chapter 17: a number's figures, the broker's name, what is right, the same. -/
import Derived.Test.YtobdcmgdodahgaaDoorH11
import Derived.Test.YtobdcmgdodahgaaDoorH12
import Derived.Test.YtobdcmgdodahgaaDoorQ10
import Derived.Test.YtobdcmgdodahgaaDoorQ14
import Derived.WideShapes
namespace Go.Proofs.YtobdcmgdodahgaaDoor.Q
open Go.RowKit Go.Proofs.YtobdcmgdodahgaaDoorW.PrintWords Go.Proofs.YtobdcmgdodahgaaDoorW.PrintLast Go.Proofs.YtobdcmgdodahgaaDoorW.PrintMore
set_option linter.unusedVariables false
set_option linter.unusedSimpArgs false

/-- With fuel enough it answers v. -/
def Evt {α : Type} (g : Nat → Option α) (v : α) : Prop := ∃ K, ∀ k, K ≤ k → g k = some v
theorem Evt.pure {α : Type} {g : Nat → Option α} {v : α} (h : ∀ k, g k = some v) : Evt g v := ⟨0, fun k _ => h k⟩
theorem Evt.const {α : Type} (v : α) : Evt (fun _ => some v) v := ⟨0, fun _ _ => rfl⟩
theorem Evt.succ {α : Type} {g h : Nat → Option α} {v : α} (e : ∀ k, g (k + 1) = h k) (hh : Evt h v) : Evt g v := by
  obtain ⟨K, hK⟩ := hh
  refine ⟨K + 1, fun k hk => ?_⟩
  cases k with
  | zero => omega
  | succ k => rw [e k]; exact hK k (by omega)
theorem Evt.congr {α : Type} {g h : Nat → Option α} {v : α} (e : ∀ k, g k = h k) (hh : Evt h v) : Evt g v := by
  obtain ⟨K, hK⟩ := hh
  exact ⟨K, fun k hk => (e k).trans (hK k hk)⟩
theorem Evt.bind {α β : Type} {g : Nat → Option α} {h : Nat → α → Option β} {a : α} {v : β} (hg : Evt g a) (hh : Evt (fun k => h k a) v) : Evt (fun k => (g k).bind (h k)) v := by
  obtain ⟨K1, h1⟩ := hg
  obtain ⟨K2, h2⟩ := hh
  exact ⟨max K1 K2, fun k hk => by show (g k).bind (h k) = some v; rw [h1 k (by omega)]; exact h2 k (by omega)⟩
theorem Evt.run {α : Type} {g : Nat → Option α} {v : α} (h : Evt g v) : ∃ k, g k = some v := by
  obtain ⟨K, hK⟩ := h
  exact ⟨K, hK K (Nat.le_refl _)⟩

theorem u64_wrap (x : Int) : IntKind.u64.wrap x = x % 18446744073709551616 := by simp [IntKind.wrap, IntKind.bits, IntKind.signed]
theorem u64_wf {a : Int} (h : (Lit.int .u64 a).wf = true) : 0 ≤ a ∧ a ≤ 18446744073709551615 := by
  simp [Lit.wf, IntKind.min, IntKind.max, IntKind.bits, IntKind.signed] at h
  omega
theorem i64_wf {a : Int} (h : (Lit.int .i64 a).wf = true) : -9223372036854775808 ≤ a ∧ a ≤ 9223372036854775807 := by
  simp [Lit.wf, IntKind.min, IntKind.max, IntKind.bits, IntKind.signed] at h
  omega
theorem w64 {n N : Nat} (h : n < N) (hN : N ≤ 4611686018427387904) : wrap64 ((n : Int) + 1) = ((n + 1 : Nat) : Int) := by
  unfold wrap64; omega
theorem rd31_nat {L : List S31} {i : Nat} (h : i < L.length) : rd_T31 L (i : Int) = L[i] := by
  unfold rd_T31
  rw [Int.toNat_natCast, List.getD_eq_getElem?_getD, List.getElem?_eq_getElem h]
  rfl

/-! Texts. -/
theorem tl_eq (a : ByteArray) : a.toList = a.data.toList := ByteArray.toList_eq a
theorem tl_inj {a b : ByteArray} : a.toList = b.toList ↔ a = b :=
  ⟨fun h => Go.WideShapes.bytes_inj (by rw [← tl_eq, ← tl_eq]; exact h), fun h => h ▸ rfl⟩
theorem tl_len (a : ByteArray) : a.toList.length = a.size := by rw [tl_eq, Array.length_toList]; rfl
theorem tl_nil {a : ByteArray} : a.toList = [] ↔ a.size = 0 := by rw [← tl_len]; exact List.length_eq_zero_iff.symm
theorem tl_app (a b : ByteArray) : (a ++ b).toList = a.toList ++ b.toList := by rw [tl_eq, tl_eq, tl_eq, ByteArray.data_append, Array.toList_append]
theorem tl_mk (l : List UInt8) : (⟨l.toArray⟩ : ByteArray).toList = l := by rw [tl_eq]

/-! A number's figures. -/
theorem dec_len_le (u : Nat) (hu : u < 18446744073709551616) : (Lib.decDigits u).length ≤ 20 := by
  rw [Lib.decDigits_length]
  rcases Nat.eq_zero_or_pos u with h0 | h0
  · subst h0; rw [Lib.nDigits_small (by omega)]; omega
  · have := Lib.numDigits_eq u h0 hu; split at this <;> omega
theorem dec_size (u : Nat) (hu : u < 18446744073709551616) : (⟨(Lib.decDigits u).toArray⟩ : ByteArray).size ≤ 20 := by
  have := dec_len_le u hu
  rw [← tl_len, tl_mk]; exact this
theorem fig_one (n : Nat) : strOfNums [(48 + ((Int.tmod (n : Int) 10) % 256)) % 256] = ⟨#[UInt8.ofNat (48 + n % 10)]⟩ := by
  have e : (48 + ((Int.tmod (n : Int) 10) % 256)) % 256 = ((48 + n % 10 : Nat) : Int) := by
    have : Int.tmod (n : Int) 10 = ((n % 10 : Nat) : Int) := rfl
    rw [this]; omega
  rw [e]
  rfl
theorem figures_ev (n : Nat) (hn : n < 18446744073709551616) : Evt (fun k => interchangeref17_figures.f k (n : Int)) ⟨(Lib.decDigits n).toArray⟩ := by
  induction n using Nat.strongRecOn with
  | _ n ih =>
    by_cases h : n < 10
    · refine Evt.succ (h := fun _ => some _) (fun k => ?_) (Evt.const _)
      simp only [interchangeref17_figures.f, Option.bind_some]
      rw [if_neg (by omega), fig_one]
      rw [Lib.decDigits, dif_pos h, Nat.mod_eq_of_lt h]
    · have h10 : n / 10 < n := by omega
      have ev := ih (n / 10) h10 (by omega)
      have hsz := dec_size (n / 10) (by omega)
      have ht : IntKind.u64.wrap (Int.tdiv (n : Int) 10) = ((n / 10 : Nat) : Int) := by
        have : Int.tdiv (n : Int) 10 = ((n / 10 : Nat) : Int) := rfl
        rw [this, u64_wrap]; omega
      have hd : Lib.decDigits n = Lib.decDigits (n / 10) ++ [UInt8.ofNat (48 + n % 10)] := by
        conv => lhs; rw [Lib.decDigits]
        rw [dif_neg h]
      refine Evt.succ (h := fun k => (interchangeref17_figures.f k ((n / 10 : Nat) : Int)).bind fun t => if t.size + (strOfNums [(48 + ((Int.tmod (n : Int) 10) % 256)) % 256]).size ≤ 9223372036854775807 then (some (t ++ (strOfNums [(48 + ((Int.tmod (n : Int) 10) % 256)) % 256]))) else none) (fun k => ?_) (Evt.bind ev ?_)
      · simp only [interchangeref17_figures.f, Option.bind_some]
        rw [if_pos (by omega), ht]
      · refine Evt.pure fun k => ?_
        have h1 : (⟨#[UInt8.ofNat (48 + n % 10)]⟩ : ByteArray).size = 1 := rfl
        rw [fig_one, h1, if_pos (by omega), hd]
        refine congrArg some ?_
        rw [← tl_inj, tl_app, tl_mk, tl_mk]
        exact (tl_mk _).symm

/-! The broker's name. -/
def upR (who : Int) (s : ByteArray) : ByteArray × Int :=
  if who < 1 ∨ s.toList = [] then (⟨#[]⟩, 1) else if 256 ≤ (upS who s).size then (⟨#[]⟩, 4) else (upS who s, 0)
theorem upS_size (who : Int) (s : ByteArray) : (upS who s).size = (Lib.decDigits who.toNat).length + 1 + s.size := by
  unfold upS
  rw [ByteArray.size_append, ByteArray.size_append, ← tl_len, tl_mk]
  rfl
theorem up_val (who : Int) (s : ByteArray) (h : who ≤ 9223372036854775807) (hs : s.size ≤ 140737488351232) : names_Up.f who s = some (upR who s) := by
  unfold names_Up.f upR
  by_cases h1 : who < 1 ∨ s.toList = []
  · rw [if_pos h1, if_pos h1]
  · rw [if_neg h1, if_neg h1, if_neg (by omega)]
    have := dec_len_le who.toNat (by omega)
    rw [if_pos (by rw [upS_size]; omega)]
    split <;> rfl
theorem refUp_ev (who : Int) (s : ByteArray) (h : who ≤ 9223372036854775807) (hs : s.size ≤ 140737488351232) : Evt (fun k => interchangeref17_Up.f k who s) (upR who s) := by
  unfold upR
  by_cases h1 : who < 1
  · rw [if_pos (Or.inl h1)]
    refine Evt.succ (h := fun _ => some _) (fun k => ?_) (Evt.const _)
    simp only [interchangeref17_Up.f, interchangeref17_Up.j0]
    rw [if_pos h1, if_pos trivial]
  · by_cases h2 : s.toList = []
    · rw [if_pos (Or.inr h2)]
      refine Evt.succ (h := fun _ => some _) (fun k => ?_) (Evt.const _)
      simp only [interchangeref17_Up.f, interchangeref17_Up.j0]
      rw [if_neg h1, if_pos (beq_iff_eq.2 h2)]
    · rw [if_neg (by intro hh; exact hh.elim h1 h2)]
      obtain ⟨n, rfl⟩ : ∃ n : Nat, who = n := ⟨who.toNat, by omega⟩
      have hn : n < 18446744073709551616 := by omega
      have hw : IntKind.u64.wrap (n : Int) = (n : Int) := by rw [u64_wrap]; omega
      have hd := dec_size n hn
      have hl := dec_len_le n hn
      have e1 : (⟨#[47]⟩ : ByteArray).size = 1 := rfl
      have hus := upS_size (n : Int) s
      rw [Int.toNat_natCast] at hus
      have hue : (⟨(Lib.decDigits n).toArray⟩ : ByteArray) ++ ⟨#[47]⟩ ++ s = upS (n : Int) s := rfl
      refine Evt.succ (h := fun k => (interchangeref17_figures.f k (n : Int)).bind fun t127 => (if t127.size + 1 ≤ 9223372036854775807 then (if (t127 ++ (⟨#[47]⟩ : ByteArray)).size + s.size ≤ 9223372036854775807 then (if (((t127 ++ (⟨#[47]⟩ : ByteArray)) ++ s).size : Int) > 255 then (some ((⟨#[]⟩ : ByteArray), 4)) else (some ((t127 ++ (⟨#[47]⟩ : ByteArray)) ++ s, 0))) else (none)) else (none))) (fun k => ?_) (Evt.bind (figures_ev n hn) (Evt.pure fun k => ?_))
      · simp only [interchangeref17_Up.f, interchangeref17_Up.j0]
        rw [if_neg h1, if_neg (by rw [beq_iff_eq]; exact h2), hw]
      · rw [if_pos (by omega), if_pos (by rw [ByteArray.size_append, e1]; omega), hue]
        by_cases hb : 256 ≤ (upS (n : Int) s).size
        · rw [if_pos (by omega), if_pos hb]
        · rw [if_neg (by omega), if_neg hb]

/-! What is right. -/
def okAt (who : Int) (l : List S31) (i : Nat) : Prop :=
  upR who (rd_T31 l i).f0 = ((rd_T31 l i).f1, 0) ∧ ∀ t : Nat, t < i → (rd_T31 l t).f0 ≠ (rd_T31 l i).f0
def RightP (who : Int) (l : List S31) : Prop := 1 ≤ who ∧ ∀ i : Nat, i < l.length → okAt who l i
def Sz (l : List S31) : Prop := l.length ≤ 4611686018427387904 ∧ ∀ x ∈ l, x.f0.size ≤ 140737488351232

theorem Right_l1 (who made : Int) (l : List S31) (hL : l.length ≤ 4611686018427387904) (i : Nat) (hi : i < l.length) (b' : Bool) (hb' : Evt (fun k => interchangeref17_Right.l0 k (wrap64 ((i : Int) + 1)) who made l) b') :
    ∀ (r j : Nat), j + r = i → ∃ v : Bool, Evt (fun k => interchangeref17_Right.l1 k i j who made l) v ∧ (v = true ↔ (∀ t : Nat, j ≤ t → t < i → (rd_T31 l t).f0 ≠ (rd_T31 l i).f0) ∧ b' = true)
  | 0, j, hj => by
    obtain rfl : j = i := by omega
    refine ⟨b', Evt.succ (fun k => ?_) hb', ?_⟩
    · simp only [interchangeref17_Right.l1]
      rw [if_neg (by omega)]
    · constructor
      · exact fun h => ⟨fun t h1 h2 => by omega, h⟩
      · exact fun h => h.2
  | r + 1, j, hj => by
    obtain ⟨v, hv, hv2⟩ := Right_l1 who made l hL i hi b' hb' r (j + 1) (by omega)
    have hji : (j : Int) < (i : Int) := by omega
    have hw := w64 (n := j) (N := l.length) (by omega) hL
    by_cases h1 : (rd_T31 l j).f0.toList = (rd_T31 l i).f0.toList
    · refine ⟨false, Evt.succ (h := fun _ => some false) (fun k => ?_) (Evt.const _), ?_⟩
      · simp only [interchangeref17_Right.l1]
        rw [if_pos hji, if_pos (by omega), if_pos (by omega), if_pos (by omega), if_pos (by omega), if_pos h1]
      · constructor
        · intro h; cases h
        · intro h
          exact absurd (tl_inj.1 h1) (h.1 j (Nat.le_refl _) (by omega))
    · refine ⟨v, Evt.succ (fun k => ?_) hv, ?_⟩
      · simp only [interchangeref17_Right.l1]
        rw [if_pos hji, if_pos (by omega), if_pos (by omega), if_pos (by omega), if_pos (by omega), if_neg h1, hw]
      · rw [hv2]
        constructor
        · intro h
          refine ⟨fun t h2 h3 => ?_, h.2⟩
          by_cases h4 : t = j
          · subst h4; exact fun e => h1 (tl_inj.2 e)
          · exact h.1 t (by omega) h3
        · exact fun h => ⟨fun t h2 h3 => h.1 t (by omega) h3, h.2⟩

theorem Right_l0 (who made : Int) (l : List S31) (hw : who ≤ 9223372036854775807) (hs : Sz l) : ∀ (r i : Nat), i + r = l.length → ∃ v : Bool, Evt (fun k => interchangeref17_Right.l0 k i who made l) v ∧ (v = true ↔ ∀ t : Nat, i ≤ t → t < l.length → okAt who l t)
  | 0, i, hi => by
    refine ⟨true, Evt.succ (h := fun _ => some true) (fun k => ?_) (Evt.const _), ?_⟩
    · simp only [interchangeref17_Right.l0]
      rw [if_neg (by omega)]
    · exact ⟨fun _ t h1 h2 => by omega, fun _ => rfl⟩
  | r + 1, i, hi => by
    obtain ⟨v, hv, hv2⟩ := Right_l0 who made l hw hs r (i + 1) (by omega)
    have hil : i < l.length := by omega
    have hwr := w64 (n := i) (N := l.length) hil hs.1
    have hsz : (rd_T31 l i).f0.size ≤ 140737488351232 := by rw [rd31_nat hil]; exact hs.2 _ (List.getElem_mem hil)
    obtain ⟨v1, hv1, hv12⟩ := Right_l1 who made l hs.1 i hil v (by rw [hwr]; exact hv) i 0 (by omega)
    have hup := refUp_ev who (rd_T31 l i).f0 hw hsz
    have key : ∀ b : Bool, Evt (fun k => interchangeref17_Right.j1 k i b who made l) (if b = true then false else v1) := by
      intro b
      cases b with
      | true =>
        rw [if_pos rfl]
        refine Evt.succ (h := fun _ => some false) (fun k => ?_) (Evt.const _)
        simp only [interchangeref17_Right.j1]
        rw [if_pos trivial]
      | false =>
        rw [if_neg (by decide)]
        refine Evt.succ (h := fun k => interchangeref17_Right.l1 k i 0 who made l) (fun k => ?_) hv1
        simp only [interchangeref17_Right.j1]
        rw [if_neg (by decide)]
    have go : ∀ b : Bool, (∀ k, (if (upR who (rd_T31 l i).f0).2 = 0 then (interchangeref17_Right.j1 k i ((upR who (rd_T31 l i).f0).1.toList != ((rd_T31 l i).f1).toList) who made l) else (interchangeref17_Right.j1 k i true who made l)) = interchangeref17_Right.j1 k i b who made l) →
        Evt (fun k => interchangeref17_Right.l0 k i who made l) (if b = true then false else v1) := by
      intro b hb
      refine Evt.succ (h := fun k => (interchangeref17_Up.f k who ((rd_T31 l i).f0)).bind fun bt130 => (if bt130.2 = 0 then (interchangeref17_Right.j1 k i (bt130.1.toList != ((rd_T31 l i).f1).toList) who made l) else (interchangeref17_Right.j1 k i true who made l))) (fun k => ?_) (Evt.bind hup (Evt.congr hb (key b)))
      simp only [interchangeref17_Right.l0]
      rw [if_pos (by omega), if_pos (by omega)]
    by_cases hok : upR who (rd_T31 l i).f0 = ((rd_T31 l i).f1, 0)
    · refine ⟨v1, go false fun k => ?_, ?_⟩
      · rw [hok, if_pos rfl]
        congr 1
        exact bne_eq_false_iff_eq.2 rfl
      · rw [hv12, hv2]
        constructor
        · rintro ⟨h1, h2⟩ t ht1 ht2
          by_cases h3 : t = i
          · subst h3; exact ⟨hok, fun q hq => h1 q (by omega) hq⟩
          · exact h2 t (by omega) ht2
        · intro h
          exact ⟨fun t _ h2 => (h i (Nat.le_refl _) hil).2 t h2, fun t h1 h2 => h t (by omega) h2⟩
    · refine ⟨false, go true fun k => ?_, ?_⟩
      · by_cases h0 : (upR who (rd_T31 l i).f0).2 = 0
        · rw [if_pos h0]
          congr 1
          refine bne_iff_ne.2 fun e => hok ?_
          rw [← tl_inj.1 e, ← h0]
        · rw [if_neg h0]
      · constructor
        · intro h; cases h
        · intro h; exact absurd (h i (Nat.le_refl _) hil).1 hok

theorem Right_ev (who made : Int) (l : List S31) (hw : who ≤ 9223372036854775807) (hs : Sz l) : ∃ v : Bool, Evt (fun k => interchangeref17_Right.f k who made l) v ∧ (v = true ↔ RightP who l) := by
  by_cases h1 : who < 1
  · refine ⟨false, Evt.pure fun k => ?_, ?_⟩
    · simp only [interchangeref17_Right.f]
      rw [if_pos h1]
    · constructor
      · intro h; cases h
      · intro h; have := h.1; omega
  · obtain ⟨v, hv, hv2⟩ := Right_l0 who made l hw hs l.length 0 (by omega)
    refine ⟨v, Evt.congr (fun k => ?_) hv, ?_⟩
    · simp only [interchangeref17_Right.f]
      rw [if_neg h1]
      rfl
    · rw [hv2]
      exact ⟨fun h => ⟨by omega, fun i hi => h i (by omega) hi⟩, fun h t _ ht => h.2 t ht⟩
theorem Right_true {who made : Int} {l : List S31} (hw : who ≤ 9223372036854775807) (hs : Sz l) (h : RightP who l) : Evt (fun k => interchangeref17_Right.f k who made l) true := by
  obtain ⟨v, hv, hv2⟩ := Right_ev who made l hw hs
  rw [hv2.2 h] at hv
  exact hv

/-! The same. -/
theorem Same_l0 (who made : Int) (l : List S31) (hL : l.length ≤ 4611686018427387904) : ∀ (r i : Nat), i + r = l.length → Evt (fun k => interchangeref17_Same.l0 k i who made l who made l) true
  | 0, i, hi => by
    refine Evt.succ (h := fun _ => some true) (fun k => ?_) (Evt.const _)
    simp only [interchangeref17_Same.l0]
    rw [if_neg (by omega)]
  | r + 1, i, hi => by
    have hw := w64 (n := i) (N := l.length) (by omega) hL
    refine Evt.succ (fun k => ?_) (Same_l0 who made l hL r (i + 1) (by omega))
    simp only [interchangeref17_Same.l0]
    rw [if_pos (by omega), if_pos (by omega), if_pos (by omega), if_neg (by simp), hw]
theorem Same_self (who made : Int) (l : List S31) (hL : l.length ≤ 4611686018427387904) : Evt (fun k => interchangeref17_Same.f k who made l who made l) true := by
  refine Evt.succ (fun k => ?_) (Same_l0 who made l hL l.length 0 (by omega))
  simp only [interchangeref17_Same.f, interchangeref17_Same.j0]
  rw [if_pos trivial, if_pos trivial, if_neg (by simp)]
  rfl
end Go.Proofs.YtobdcmgdodahgaaDoor.Q
