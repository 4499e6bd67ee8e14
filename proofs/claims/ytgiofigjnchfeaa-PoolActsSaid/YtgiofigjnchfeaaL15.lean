/- Plain laws of chapter 13: what is right, how many, the same. Plain laws of chapter 13: a right pool, what is leased. Plain laws of chapter 13: what is put in, changed, taken out. What all of them use. -/
import Derived.Test.YtgiofigjnchfeaaH12
import Derived.Test.YtgiofigjnchfeaaQ11
import Derived.Test.YtgiofigjnchfeaaQ13
import Derived.Test.YtgiofigjnchfeaaQ15
import Derived.Test.YtgiofigjnchfeaaH14
import Derived.Test.YtgiofigjnchfeaaH10
namespace Go.Proofs.Ytgiofigjnchfeaa.Q
open Go.RowKit Go.Proofs.YtgiofigjnchfeaaW.PrintWords Go.Proofs.YtgiofigjnchfeaaW.PrintLast Go.Proofs.YtgiofigjnchfeaaW.PrintMore
set_option linter.unusedVariables false
set_option linter.unusedSimpArgs false

/-- With fuel enough it answers v. -/
def Ev {α : Type} (g : Nat → Option α) (v : α) : Prop := ∃ K, ∀ k, K ≤ k → g k = some v
theorem Ev.pure {α : Type} {g : Nat → Option α} {v : α} (h : ∀ k, g k = some v) : Ev g v := ⟨0, fun k _ => h k⟩
theorem Ev.const {α : Type} (v : α) : Ev (fun _ => some v) v := ⟨0, fun _ _ => rfl⟩
theorem Ev.succ {α : Type} {g h : Nat → Option α} {v : α} (e : ∀ k, g (k + 1) = h k) (hh : Ev h v) : Ev g v := by
 obtain ⟨K, hK⟩ := hh
 refine ⟨K + 1, fun k hk => ?_⟩
 cases k with
 | zero => omega
 | succ k => rw [e k]; exact hK k (by omega)
theorem Ev.congr {α : Type} {g h : Nat → Option α} {v : α} (e : ∀ k, g k = h k) (hh : Ev h v) : Ev g v := by
 obtain ⟨K, hK⟩ := hh
 exact ⟨K, fun k hk => (e k).trans (hK k hk)⟩
theorem Ev.bind {α β : Type} {g : Nat → Option α} {h : Nat → α → Option β} {a : α} {v : β} (hg : Ev g a) (hh : Ev (fun k => h k a) v) : Ev (fun k => (g k).bind (h k)) v := by
 obtain ⟨K1, h1⟩ := hg
 obtain ⟨K2, h2⟩ := hh
 exact ⟨max K1 K2, fun k hk => by show (g k).bind (h k) = some v; rw [h1 k (by omega)]; exact h2 k (by omega)⟩
theorem Ev.run {α : Type} {g : Nat → Option α} {v : α} (h : Ev g v) : ∃ k, g k = some v := by
 obtain ⟨K, hK⟩ := h
 exact ⟨K, hK K (Nat.le_refl _)⟩

theorem w64 {n N : Nat} (h : n < N) (hN : N ≤ 4611686018427387904) : wrap64 ((n : Int) + 1) = ((n + 1 : Nat) : Int) := by
 unfold wrap64; omega
theorem rd29_nat {L : List S29} {i : Nat} (h : i < L.length) : rd_T29 L (i : Int) = L[i] := by simp [rd_T29, h]
theorem rd_nat {M : List Int} {i : Nat} (h : i < M.length) : rd M (i : Int) = M[i] := by simp [rd, h]

/-! What is right. -/
def okAt (M : List Int) (L : List S29) (i : Nat) : Prop :=
 0 ≤ (rd_T29 L i).f0 ∧ (rd_T29 L i).f0 < (M.length : Int) ∧ 1 ≤ (rd_T29 L i).f1 ∧ (rd_T29 L i).f1 ≤ rd M (rd_T29 L i).f0 ∧ 1 ≤ (rd_T29 L i).f2 ∧ (rd_T29 L i).f2 ≤ 3 ∧ 0 ≤ (rd_T29 L i).f3 ∧
 ((rd_T29 L i).f2 = 3 ↔ (rd_T29 L i).f3 = 0) ∧
 (0 < i → ¬ ((rd_T29 L ((i : Int) - 1)).f0 > (rd_T29 L i).f0) ∧ ((rd_T29 L ((i : Int) - 1)).f0 = (rd_T29 L i).f0 → (rd_T29 L ((i : Int) - 1)).f1 < (rd_T29 L i).f1)) ∧
 (∀ t : Nat, t < i → (rd_T29 L i).f3 = 0 ∨ (rd_T29 L t).f3 ≠ (rd_T29 L i).f3)
def RightP (M : List Int) (L : List S29) : Prop :=
 M.length ≤ 64 ∧ (∀ i : Nat, i < M.length → 0 ≤ rd M i ∧ rd M i ≤ 65535) ∧ ∀ i : Nat, i < L.length → okAt M L i

theorem Right_l2 (M : List Int) (L : List S29) (hL : L.length ≤ 4611686018427387904) (i : Nat) (hi : i < L.length) (a b c s3 : Int) (b' : Bool) (hb' : Ev (fun k => interchangeref13_Right.l1 k (wrap64 ((i : Int) + 1)) M L) b') :
  ∀ (r j : Nat), j + r = i → ∃ v : Bool, Ev (fun k => interchangeref13_Right.l2 k i j M L a b c s3) v ∧ (v = true ↔ (∀ t : Nat, j ≤ t → t < i → s3 = 0 ∨ (rd_T29 L t).f3 ≠ s3) ∧ b' = true)
 | 0, j, hj => by
  obtain rfl : j = i := by omega
  refine ⟨b', Ev.succ (fun k => ?_) hb', ?_⟩
  ·
   simp only [interchangeref13_Right.l2]
   rw [if_neg (by omega)]
  ·
   constructor
   ·
    exact fun h => ⟨fun t h1 h2 => by omega, h⟩
   ·
    exact fun h => h.2
 | r + 1, j, hj => by
  obtain ⟨v, hv, hv2⟩ := Right_l2 M L hL i hi a b c s3 b' hb' r (j + 1) (by omega)
  have hji : (j : Int) < (i : Int) := by omega
  have hw := w64 (n := j) (N := L.length) (by omega) hL
  by_cases h0 : s3 = 0
  ·
   refine ⟨v, Ev.succ (fun k => ?_) hv, ?_⟩
   ·
    simp only [interchangeref13_Right.l2]
    rw [if_pos hji, if_pos h0, hw]
   ·
    rw [hv2]
    exact ⟨fun h => ⟨fun t _ _ => .inl h0, h.2⟩, fun h => ⟨fun t _ _ => .inl h0, h.2⟩⟩
  ·
   by_cases h1 : (rd_T29 L j).f3 = s3
   ·
    refine ⟨false, Ev.succ (h := fun _ => some false) (fun k => ?_) (Ev.const _), ?_⟩
    ·
     simp only [interchangeref13_Right.l2]
     rw [if_pos hji, if_neg h0, if_pos (by omega), if_pos (by omega), if_pos h1]
    ·
     constructor
     ·
      intro h; cases h
     ·
      intro h
      rcases h.1 j (Nat.le_refl _) (by omega) with h2 | h2
      ·
       exact absurd h2 h0
      ·
       exact absurd h1 h2
   ·
    refine ⟨v, Ev.succ (fun k => ?_) hv, ?_⟩
    ·
     simp only [interchangeref13_Right.l2]
     rw [if_pos hji, if_neg h0, if_pos (by omega), if_pos (by omega), if_neg h1, hw]
    ·
     rw [hv2]
     constructor
     ·
      rintro ⟨h2, h3⟩
      refine ⟨fun t ht1 ht2 => ?_, h3⟩
      by_cases e : t = j
      ·
       subst e; exact .inr h1
      ·
       exact h2 t (by omega) ht2
     ·
      rintro ⟨h2, h3⟩
      exact ⟨fun t ht1 ht2 => h2 t (by omega) ht2, h3⟩

theorem Right_j4 (M : List Int) (L : List S29) (hL : L.length ≤ 4611686018427387904) (i : Nat) (hi : i < L.length) (a b c s3 : Int) (b' : Bool) (hb' : Ev (fun k => interchangeref13_Right.l1 k (wrap64 ((i : Int) + 1)) M L) b') (x : Bool) :
  ∃ v : Bool, Ev (fun k => interchangeref13_Right.j4 k i x M L a b c s3) v ∧ (v = true ↔ x = false ∧ (∀ t : Nat, t < i → s3 = 0 ∨ (rd_T29 L t).f3 ≠ s3) ∧ b' = true) := by
 cases x with
 | true => exact ⟨false, Ev.succ (h := fun _ => some false) (fun k => by simp only [interchangeref13_Right.j4, if_true]) (Ev.const _), by simp⟩
 | false =>
  obtain ⟨v, hv, hv2⟩ := Right_l2 M L hL i hi a b c s3 b' hb' i 0 (by omega)
  refine ⟨v, Ev.succ (fun k => ?_) hv, ?_⟩
  ·
   simp only [interchangeref13_Right.j4, Bool.false_eq_true, if_false]
   rfl
  ·
   rw [hv2]
   simp

theorem Right_j3 (M : List Int) (L : List S29) (hL : L.length ≤ 4611686018427387904) (i : Nat) (hi : i < L.length) (s0 s1 c s3 : Int) (b' : Bool) (hb' : Ev (fun k => interchangeref13_Right.l1 k (wrap64 ((i : Int) + 1)) M L) b') (x : Bool) :
  ∃ v : Bool, Ev (fun k => interchangeref13_Right.j3 k i x M L s0 s1 c s3) v ∧ (v = true ↔ x = false ∧ (0 < i → ¬ ((rd_T29 L ((i : Int) - 1)).f0 > s0) ∧ ((rd_T29 L ((i : Int) - 1)).f0 = s0 → (rd_T29 L ((i : Int) - 1)).f1 < s1)) ∧ (∀ t : Nat, t < i → s3 = 0 ∨ (rd_T29 L t).f3 ≠ s3) ∧ b' = true) := by
 cases x with
 | true => exact ⟨false, Ev.succ (h := fun _ => some false) (fun k => by simp only [interchangeref13_Right.j3, if_true]) (Ev.const _), by simp⟩
 | false =>
  by_cases h0 : 0 < i
  ·
   have hw : wrap64 ((i : Int) - 1) = (i : Int) - 1 := by unfold wrap64; omega
   by_cases h1 : (rd_T29 L ((i : Int) - 1)).f0 > s0
   ·
    obtain ⟨v, hv, hv2⟩ := Right_j4 M L hL i hi s0 s1 c s3 b' hb' true
    refine ⟨v, Ev.succ (fun k => ?_) hv, ?_⟩
    ·
     simp only [interchangeref13_Right.j3, Bool.false_eq_true, if_false]
     rw [if_pos (by omega), hw, if_pos (by omega), if_pos (by omega), if_pos h1]
    ·
     rw [hv2]; simp [h0, h1]
   ·
    by_cases h2 : (rd_T29 L ((i : Int) - 1)).f0 = s0
    ·
     obtain ⟨v, hv, hv2⟩ := Right_j4 M L hL i hi s0 s1 c s3 b' hb' (decide ((rd_T29 L ((i : Int) - 1)).f1 ≥ s1))
     refine ⟨v, Ev.succ (fun k => ?_) hv, ?_⟩
     ·
      simp only [interchangeref13_Right.j3, Bool.false_eq_true, if_false]
      rw [if_pos (by omega), hw, if_pos (by omega), if_pos (by omega), if_neg h1, if_pos h2]
     ·
      rw [hv2]; simp [h0, h1, h2]
    ·
     obtain ⟨v, hv, hv2⟩ := Right_j4 M L hL i hi s0 s1 c s3 b' hb' false
     refine ⟨v, Ev.succ (fun k => ?_) hv, ?_⟩
     ·
      simp only [interchangeref13_Right.j3, Bool.false_eq_true, if_false]
      rw [if_pos (by omega), hw, if_pos (by omega), if_pos (by omega), if_neg h1, if_neg h2]
     ·
      rw [hv2]; simp [h0, h1, h2]
  ·
   obtain ⟨v, hv, hv2⟩ := Right_j4 M L hL i hi s0 s1 c s3 b' hb' false
   refine ⟨v, Ev.succ (fun k => ?_) hv, ?_⟩
   ·
    simp only [interchangeref13_Right.j3, Bool.false_eq_true, if_false]
    rw [if_neg (by omega)]
   ·
    rw [hv2]; simp [h0]

theorem Right_j2 (M : List Int) (L : List S29) (hL : L.length ≤ 4611686018427387904) (i : Nat) (hi : i < L.length) (s0 s1 s2 s3 : Int) (b' : Bool) (hb' : Ev (fun k => interchangeref13_Right.l1 k (wrap64 ((i : Int) + 1)) M L) b') (x : Bool) :
  ∃ v : Bool, Ev (fun k => interchangeref13_Right.j2 k i x M L s0 s1 s2 s3) v ∧ (v = true ↔ x = false ∧ (s2 = 3 ↔ s3 = 0) ∧ (0 < i → ¬ ((rd_T29 L ((i : Int) - 1)).f0 > s0) ∧ ((rd_T29 L ((i : Int) - 1)).f0 = s0 → (rd_T29 L ((i : Int) - 1)).f1 < s1)) ∧ (∀ t : Nat, t < i → s3 = 0 ∨ (rd_T29 L t).f3 ≠ s3) ∧ b' = true) := by
 cases x with
 | true => exact ⟨false, Ev.succ (h := fun _ => some false) (fun k => by simp only [interchangeref13_Right.j2, if_true]) (Ev.const _), by simp⟩
 | false =>
  by_cases h2 : s2 = 3
  ·
   by_cases h3 : s3 = 0
   ·
    obtain ⟨v, hv, hv2⟩ := Right_j3 M L hL i hi s0 s1 s2 s3 b' hb' false
    refine ⟨v, Ev.succ (fun k => ?_) hv, ?_⟩
    ·
     simp only [interchangeref13_Right.j2, Bool.false_eq_true, if_false]
     rw [if_pos h2, if_pos h3]
    ·
     rw [hv2]; simp [h2, h3]
   ·
    obtain ⟨v, hv, hv2⟩ := Right_j3 M L hL i hi s0 s1 s2 s3 b' hb' true
    refine ⟨v, Ev.succ (fun k => ?_) hv, ?_⟩
    ·
     simp only [interchangeref13_Right.j2, Bool.false_eq_true, if_false]
     rw [if_pos h2, if_neg h3]
    ·
     rw [hv2]; simp [h2, h3]
  ·
   obtain ⟨v, hv, hv2⟩ := Right_j3 M L hL i hi s0 s1 s2 s3 b' hb' (s3 == 0)
   refine ⟨v, Ev.succ (fun k => ?_) hv, ?_⟩
   ·
    simp only [interchangeref13_Right.j2, Bool.false_eq_true, if_false]
    rw [if_neg h2]
   ·
    rw [hv2]; simp [h2]

theorem Right_l1 (M : List Int) (L : List S29) (hL : L.length ≤ 4611686018427387904) : ∀ (r i : Nat), i + r = L.length → ∃ v : Bool, Ev (fun k => interchangeref13_Right.l1 k i M L) v ∧ (v = true ↔ ∀ t : Nat, i ≤ t → t < L.length → okAt M L t)
 | 0, i, hi => by
  refine ⟨true, Ev.succ (h := fun _ => some true) (fun k => ?_) (Ev.const _), ?_⟩
  ·
   simp only [interchangeref13_Right.l1]
   rw [if_neg (by omega)]
  ·
   simp only [true_iff]
   intro t h1 h2
   omega
 | r + 1, i, hi => by
  obtain ⟨b', hb', hb2⟩ := Right_l1 M L hL r (i + 1) (by omega)
  have hil : i < L.length := by omega
  rw [← w64 (n := i) (N := L.length) hil hL] at hb'
  have key : ∀ x : Bool, (x = false ↔ (0 ≤ (rd_T29 L i).f0 ∧ (rd_T29 L i).f0 < (M.length : Int) ∧ 1 ≤ (rd_T29 L i).f1 ∧ (rd_T29 L i).f1 ≤ rd M (rd_T29 L i).f0 ∧ 1 ≤ (rd_T29 L i).f2 ∧ (rd_T29 L i).f2 ≤ 3 ∧ 0 ≤ (rd_T29 L i).f3)) →
    (∀ k, interchangeref13_Right.l1 (k + 1) i M L = interchangeref13_Right.j2 k i x M L (rd_T29 L i).f0 (rd_T29 L i).f1 (rd_T29 L i).f2 (rd_T29 L i).f3) →
    ∃ v : Bool, Ev (fun k => interchangeref13_Right.l1 k i M L) v ∧ (v = true ↔ ∀ t : Nat, i ≤ t → t < L.length → okAt M L t) := by
   intro x hx hk
   obtain ⟨v, hv, hv2⟩ := Right_j2 M L hL i hil (rd_T29 L i).f0 (rd_T29 L i).f1 (rd_T29 L i).f2 (rd_T29 L i).f3 b' hb' x
   refine ⟨v, Ev.succ hk hv, ?_⟩
   rw [hv2, hx, hb2]
   constructor
   ·
    rintro ⟨⟨h0, h1, h2, h3, h4, h5, h6⟩, h7, h8, h9, h10⟩ t ht1 ht2
    by_cases e : t = i
    ·
     subst e; exact ⟨h0, h1, h2, h3, h4, h5, h6, h7, h8, h9⟩
    ·
     exact h10 t (by omega) ht2
   ·
    intro h
    obtain ⟨h0, h1, h2, h3, h4, h5, h6, h7, h8, h9⟩ := h i (Nat.le_refl _) hil
    exact ⟨⟨h0, h1, h2, h3, h4, h5, h6⟩, h7, h8, h9, fun t ht1 ht2 => h t (by omega) ht2⟩
  have hi0 : (i : Int) < (L.length : Int) := by omega
  have hi1 : (0 : Int) ≤ (i : Int) := by omega
  by_cases c0 : (rd_T29 L i).f0 < 0
  ·
   exact key true ⟨fun h => (by cases h), fun h => (by exfalso; omega)⟩ (fun k => by simp only [interchangeref13_Right.l1]; rw [if_pos hi0, if_pos hi1, if_pos c0])
  by_cases c1 : (rd_T29 L i).f0 ≥ (M.length : Int)
  ·
   exact key true ⟨fun h => (by cases h), fun h => (by exfalso; omega)⟩ (fun k => by simp only [interchangeref13_Right.l1]; rw [if_pos hi0, if_pos hi1, if_neg c0, if_pos c1])
  by_cases c2 : (rd_T29 L i).f1 < 1
  ·
   exact key true ⟨fun h => (by cases h), fun h => (by exfalso; omega)⟩ (fun k => by simp only [interchangeref13_Right.l1]; rw [if_pos hi0, if_pos hi1, if_neg c0, if_neg c1, if_pos c2])
  by_cases c3 : (rd_T29 L i).f1 > rd M (rd_T29 L i).f0
  ·
   exact key true ⟨fun h => (by cases h), fun h => (by exfalso; omega)⟩ (fun k => by simp only [interchangeref13_Right.l1]; rw [if_pos hi0, if_pos hi1, if_neg c0, if_neg c1, if_neg c2, if_pos (by omega), if_pos (by omega), if_pos c3])
  by_cases c4 : (rd_T29 L i).f2 < 1
  ·
   exact key true ⟨fun h => (by cases h), fun h => (by exfalso; omega)⟩ (fun k => by simp only [interchangeref13_Right.l1]; rw [if_pos hi0, if_pos hi1, if_neg c0, if_neg c1, if_neg c2, if_pos (by omega), if_pos (by omega), if_neg c3, if_pos c4])
  by_cases c5 : (rd_T29 L i).f2 > 3
  ·
   exact key true ⟨fun h => (by cases h), fun h => (by exfalso; omega)⟩ (fun k => by simp only [interchangeref13_Right.l1]; rw [if_pos hi0, if_pos hi1, if_neg c0, if_neg c1, if_neg c2, if_pos (by omega), if_pos (by omega), if_neg c3, if_neg c4, if_pos c5])
  ·
   exact key (decide ((rd_T29 L i).f3 < 0)) (by rw [decide_eq_false_iff_not]; constructor <;> intro h <;> omega) (fun k => by simp only [interchangeref13_Right.l1]; rw [if_pos hi0, if_pos hi1, if_neg c0, if_neg c1, if_neg c2, if_pos (by omega), if_pos (by omega), if_neg c3, if_neg c4, if_neg c5])

theorem Right_l0 (M : List Int) (L : List S29) (hM : M.length ≤ 64) (hL : L.length ≤ 4611686018427387904) : ∀ (r i : Nat), i + r = M.length → ∃ v : Bool, Ev (fun k => interchangeref13_Right.l0 k i M L) v ∧ (v = true ↔ (∀ t : Nat, i ≤ t → t < M.length → 0 ≤ rd M t ∧ rd M t ≤ 65535) ∧ ∀ t : Nat, t < L.length → okAt M L t)
 | 0, i, hi => by
  obtain ⟨v, hv, hv2⟩ := Right_l1 M L hL L.length 0 (by omega)
  refine ⟨v, Ev.succ (fun k => ?_) hv, ?_⟩
  ·
   simp only [interchangeref13_Right.l0]
   rw [if_neg (by omega)]
   rfl
  ·
   rw [hv2]
   constructor
   ·
    exact fun h => ⟨fun t h1 h2 => by omega, fun t ht => h t (by omega) ht⟩
   ·
    exact fun h t _ ht => h.2 t ht
 | r + 1, i, hi => by
  obtain ⟨v, hv, hv2⟩ := Right_l0 M L hM hL r (i + 1) (by omega)
  have hw := w64 (n := i) (N := M.length) (by omega) (by omega)
  have hi0 : (i : Int) < (M.length : Int) := by omega
  have hi1 : (0 : Int) ≤ (i : Int) := by omega
  by_cases c0 : rd M i < 0
  ·
   refine ⟨false, Ev.succ (h := fun _ => some false) (fun k => ?_) (Ev.const _), ?_⟩
   ·
    simp only [interchangeref13_Right.l0]
    rw [if_pos hi0, if_pos hi1, if_pos c0]
   ·
    constructor
    ·
     intro h; cases h
    ·
     intro h; have := h.1 i (Nat.le_refl _) (by omega); omega
  ·
   by_cases c1 : rd M i > 65535
   ·
    refine ⟨false, Ev.succ (h := fun _ => some false) (fun k => ?_) (Ev.const _), ?_⟩
    ·
     simp only [interchangeref13_Right.l0]
     rw [if_pos hi0, if_pos hi1, if_neg c0, if_pos c1]
    ·
     constructor
     ·
      intro h; cases h
     ·
      intro h; have := h.1 i (Nat.le_refl _) (by omega); omega
   ·
    refine ⟨v, Ev.succ (fun k => ?_) hv, ?_⟩
    ·
     simp only [interchangeref13_Right.l0]
     rw [if_pos hi0, if_pos hi1, if_neg c0, if_neg c1, hw]
    ·
     rw [hv2]
     constructor
     ·
      rintro ⟨h1, h2⟩
      refine ⟨fun t ht1 ht2 => ?_, h2⟩
      by_cases e : t = i
      ·
       subst e; omega
      ·
       exact h1 t (by omega) ht2
     ·
      rintro ⟨h1, h2⟩
      exact ⟨fun t ht1 ht2 => h1 t (by omega) ht2, h2⟩

theorem Right_ev (M : List Int) (L : List S29) (hL : L.length ≤ 4611686018427387904) : ∃ v : Bool, Ev (fun k => interchangeref13_Right.f k M L) v ∧ (v = true ↔ RightP M L) := by
 by_cases hM : M.length ≤ 64
 ·
  obtain ⟨v, hv, hv2⟩ := Right_l0 M L hM hL M.length 0 (by omega)
  refine ⟨v, Ev.congr (fun k => ?_) hv, ?_⟩
  ·
   unfold interchangeref13_Right.f
   rw [if_neg (by omega)]
   rfl
  ·
   rw [hv2]
   constructor
   ·
    exact fun h => ⟨hM, fun i hi => h.1 i (Nat.zero_le _) hi, h.2⟩
   ·
    exact fun h => ⟨fun t _ ht => h.2.1 t ht, h.2.2⟩
 ·
  refine ⟨false, Ev.pure (fun k => ?_), ?_⟩
  ·
   show interchangeref13_Right.f k M L = some false
   unfold interchangeref13_Right.f
   rw [if_pos (by omega)]
  ·
   constructor
   ·
    intro h; cases h
   ·
    intro h; exact absurd h.1 hM
theorem few_ev (M : List Int) (L : List S29) (hL : L.length ≤ 4611686018427387904) : ∃ v : Bool, Ev (fun k => interchangelaw13_few.f k M L) v ∧ (v = true → RightP M L ∧ L.length ≤ 200) := by
 obtain ⟨v, hv, hv2⟩ := Right_ev M L hL
 cases v with
 | false =>
  refine ⟨false, ?_, fun h => by cases h⟩
  exact Ev.bind hv (Ev.pure (fun k => by simp))
 | true =>
  refine ⟨decide ((L.length : Int) ≤ 200), ?_, fun h => ⟨hv2.1 rfl, by have := of_decide_eq_true h; omega⟩⟩
  exact Ev.bind hv (Ev.pure (fun k => by simp))

/-! How many. -/
def cntN (c : Int) (L : List S29) : Nat := L.countP fun s => s.f0 == c
theorem Many_l0 (M : List Int) (L : List S29) (c : Int) (hL : L.length ≤ 4611686018427387904) : ∀ (r i n : Nat), i + r = L.length → n ≤ i → Ev (fun k => interchangeref13_Many.l0 k c n i M L) ((n + cntN c (L.drop i) : Nat) : Int)
 | 0, i, n, hi, hn => by
  refine Ev.succ (h := fun _ => some _) (fun k => ?_) (Ev.const _)
  simp only [interchangeref13_Many.l0]
  rw [if_neg (by omega), List.drop_of_length_le (by omega)]
  simp [cntN]
 | r + 1, i, n, hi, hn => by
  have hil : i < L.length := by omega
  have hw := w64 (n := i) (N := L.length) hil hL
  have hd : L.drop i = L[i] :: L.drop (i + 1) := (List.drop_eq_getElem_cons hil)
  by_cases h : (rd_T29 L i).f0 = c
  ·
   have hr := Many_l0 M L c hL r (i + 1) (n + 1) (by omega) (by omega)
   rw [rd29_nat hil] at h
   rw [hd, show cntN c (L[i] :: L.drop (i + 1)) = cntN c (L.drop (i + 1)) + 1 by simp only [cntN, List.countP_cons, h, beq_self_eq_true, if_true], show n + (cntN c (L.drop (i + 1)) + 1) = n + 1 + cntN c (L.drop (i + 1)) by omega]
   refine Ev.succ (fun k => ?_) hr
   simp only [interchangeref13_Many.l0]
   rw [if_pos (by omega), if_pos (by omega), if_pos (by rw [rd29_nat hil]; exact h), hw, w64 (n := n) (N := L.length) (by omega) hL]
  ·
   have hr := Many_l0 M L c hL r (i + 1) n (by omega) (by omega)
   have h' := h
   rw [rd29_nat hil] at h'
   rw [hd, show cntN c (L[i] :: L.drop (i + 1)) = cntN c (L.drop (i + 1)) by have h2 : (L[i].f0 == c) = false := (by simpa using h'); simp only [cntN, List.countP_cons, h2, Bool.false_eq_true, if_false, Nat.add_zero]]
   refine Ev.succ (fun k => ?_) hr
   simp only [interchangeref13_Many.l0]
   rw [if_pos (by omega), if_pos (by omega), if_neg h, hw]
theorem Many_ev (M : List Int) (L : List S29) (c : Int) (hL : L.length ≤ 4611686018427387904) : Ev (fun k => interchangeref13_Many.f k M L c) (cntN c L : Int) := by
 have := Many_l0 M L c hL L.length 0 0 (by omega) (by omega)
 exact Ev.congr (h := fun k => interchangeref13_Many.l0 k c 0 0 M L) (fun k => rfl) (by simpa using this)

/-! The same. -/
theorem Same_l1 (M N : List Int) (L : List S29) (hL : L.length ≤ 4611686018427387904) : ∀ (r i : Nat), i + r = L.length → Ev (fun k => interchangeref13_Same.l1 k i M L N L) true
 | 0, i, hi => Ev.succ (h := fun _ => some true) (fun k => by simp only [interchangeref13_Same.l1]; rw [if_neg (by omega)]) (Ev.const _)
 | r + 1, i, hi => by
  refine Ev.succ (fun k => ?_) (Same_l1 M N L hL r (i + 1) (by omega))
  conv => lhs; unfold interchangeref13_Same.l1
  rw [if_pos (by omega), if_pos (by omega), if_pos (by omega), if_neg (by simp), w64 (n := i) (N := L.length) (by omega) hL]
theorem Same_l0 (M : List Int) (L : List S29) (hM : M.length ≤ 4611686018427387904) (hL : L.length ≤ 4611686018427387904) : ∀ (r i : Nat), i + r = M.length → Ev (fun k => interchangeref13_Same.l0 k i M L M L) true
 | 0, i, hi => by
  refine Ev.succ (fun k => ?_) (Same_l1 M M L hL L.length 0 (by omega))
  simp only [interchangeref13_Same.l0]
  rw [if_neg (by omega)]
  rfl
 | r + 1, i, hi => by
  refine Ev.succ (fun k => ?_) (Same_l0 M L hM hL r (i + 1) (by omega))
  conv => lhs; unfold interchangeref13_Same.l0
  rw [if_pos (by omega), if_pos (by omega), if_pos (by omega), if_pos rfl, w64 (n := i) (N := M.length) (by omega) hM]
theorem Same_ev (M : List Int) (L : List S29) (hM : M.length ≤ 4611686018427387904) (hL : L.length ≤ 4611686018427387904) : Ev (fun k => interchangeref13_Same.f k M L M L) true := by
 refine Ev.congr (h := fun k => interchangeref13_Same.j0 k false M L M L) (fun k => ?_) (Ev.succ (fun k => ?_) (Same_l0 M L hM hL M.length 0 (by omega)))
 ·
  unfold interchangeref13_Same.f
  rw [if_pos rfl]
  simp
 ·
  simp only [interchangeref13_Same.j0, Bool.false_eq_true, if_false]
  rfl
end Go.Proofs.Ytgiofigjnchfeaa.Q

namespace Go.Proofs.Ytgiofigjnchfeaa.Q
open Go.RowKit Go.Proofs.YtgiofigjnchfeaaW.PrintWords Go.Proofs.YtgiofigjnchfeaaW.PrintLast Go.Proofs.YtgiofigjnchfeaaW.PrintMore
set_option linter.unusedVariables false
set_option linter.unusedSimpArgs false

def slotOk (M : List Int) (s : S29) : Prop := 0 ≤ s.f0 ∧ s.f0 < (M.length : Int) ∧ 1 ≤ s.f1 ∧ s.f1 ≤ rd M s.f0 ∧ 1 ≤ s.f2 ∧ s.f2 ≤ 3 ∧ 0 ≤ s.f3 ∧ (s.f2 = 3 ↔ s.f3 = 0)
def ltS (a b : S29) : Prop := a.f0 < b.f0 ∨ (a.f0 = b.f0 ∧ a.f1 < b.f1)
def whoNe (a b : S29) : Prop := b.f3 = 0 ∨ a.f3 ≠ b.f3
structure RightL (M : List Int) (L : List S29) : Prop where
 len : M.length ≤ 64
 most : ∀ i : Nat, i < M.length → 0 ≤ rd M i ∧ rd M i ≤ 65535
 ok : ∀ s ∈ L, slotOk M s
 lt : L.Pairwise ltS
 who : L.Pairwise whoNe
theorem ltS_trans {a b c : S29} (h : ltS a b) (k : ltS b c) : ltS a c := by unfold ltS at *; omega
theorem ltS_irrefl (a : S29) : ¬ ltS a a := by unfold ltS; omega
theorem adj_lt {L : List S29} (h : ∀ i : Nat, (hi : i + 1 < L.length) → ltS (L[i]'(by omega)) L[i + 1]) : L.Pairwise ltS := by
 rw [List.pairwise_iff_getElem]
 have key : ∀ (d i : Nat) (h2 : i + d + 1 < L.length), ltS (L[i]'(by omega)) L[i + d + 1] := by
  intro d
  induction d with
  | zero => exact fun i h2 => h i h2
  | succ d ih => exact fun i h2 => ltS_trans (ih i (by omega)) (h (i + d + 1) h2)
 intro i j hi hj hij
 have := key (j - i - 1) i (by omega)
 simp only [show i + (j - i - 1) + 1 = j by omega] at this
 exact this
theorem RightL.of {M : List Int} {L : List S29} (h : RightP M L) : RightL M L := by
 obtain ⟨h1, h2, h3⟩ := h
 refine ⟨h1, h2, ?_, adj_lt ?_, ?_⟩
 ·
  intro s hs
  obtain ⟨i, hi, rfl⟩ := List.getElem_of_mem hs
  obtain ⟨a0, a1, a2, a3, a4, a5, a6, a7, -, -⟩ := h3 i hi
  rw [rd29_nat hi] at a0 a1 a2 a3 a4 a5 a6 a7
  exact ⟨a0, a1, a2, a3, a4, a5, a6, a7⟩
 ·
  intro i hi
  obtain ⟨-, -, -, -, -, -, -, -, a8, -⟩ := h3 (i + 1) hi
  have := a8 (by omega)
  rw [show (((i + 1 : Nat) : Int) - 1) = (i : Int) by omega, rd29_nat hi, rd29_nat (show i < L.length by omega)] at this
  unfold ltS
  omega
 ·
  rw [List.pairwise_iff_getElem]
  intro i j hi hj hij
  obtain ⟨-, -, -, -, -, -, -, -, -, a9⟩ := h3 j hj
  have := a9 i hij
  rw [rd29_nat hi, rd29_nat hj] at this
  exact this
theorem RightL.back {M : List Int} {L : List S29} (h : RightL M L) : RightP M L := by
 refine ⟨h.len, h.most, fun i hi => ?_⟩
 obtain ⟨a0, a1, a2, a3, a4, a5, a6, a7⟩ := h.ok L[i] (List.getElem_mem hi)
 have hlt := List.pairwise_iff_getElem.1 h.lt
 have hw := List.pairwise_iff_getElem.1 h.who
 unfold okAt
 rw [rd29_nat hi]
 refine ⟨a0, a1, a2, a3, a4, a5, a6, a7, fun h0 => ?_, fun t ht => ?_⟩
 ·
  have := hlt (i - 1) i (by omega) hi (by omega)
  rw [show ((i : Int) - 1) = ((i - 1 : Nat) : Int) by omega, rd29_nat (show i - 1 < L.length by omega)]
  unfold ltS at this
  omega
 ·
  have := hw t i (by omega) hi ht
  rw [rd29_nat (show t < L.length by omega)]
  exact this

/-! The best one. -/
theorem rd_set_self (m : List Int) (c : Int) (x : Int) (h0 : 0 ≤ c) (h1 : c < (m.length : Int)) : rd (m.set c.toNat x) c = x := by
 have : c.toNat < m.length := by omega
 simp [rd, this]
theorem rd_set_ne (m : List Int) (c d : Int) (x : Int) (h0 : 0 ≤ c) (h1 : 0 ≤ d) (h : c ≠ d) : rd (m.set c.toNat x) d = rd m d := by
 have : c.toNat ≠ d.toNat := by omega
 simp [rd, List.getElem?_set, this]
theorem cnts_eq (L : List S29) : ∀ (m : List Int) (c : Nat), c < m.length → (∀ s ∈ L, 0 ≤ s.f0 ∧ s.f0 < (m.length : Int)) → rd (L.foldl bump m) c = rd m c + cntN c L := by
 induction L with
 | nil => intro m c _ _; simp [cntN]
 | cons s r ih =>
  intro m c hc hs
  have hs0 := hs s List.mem_cons_self
  rw [List.foldl_cons, ih (bump m s) c (by rw [bump_length]; exact hc) (fun t ht => by rw [bump_length]; exact hs t (List.mem_cons_of_mem _ ht))]
  unfold bump
  by_cases e : s.f0 = (c : Int)
  ·
   rw [← e, rd_set_self _ _ _ hs0.1 hs0.2]
   simp only [cntN, List.countP_cons, beq_self_eq_true, if_true]
   omega
  ·
   rw [rd_set_ne _ _ _ _ hs0.1 (by omega) e]
   have : (s.f0 == (c : Int)) = false := by simpa using e
   simp only [cntN, List.countP_cons, this, Bool.false_eq_true, if_false, Nat.add_zero]
theorem best_spec (M m : List Int) : ∀ n : Nat, (bestTo M m n = -1 ∧ ∀ c : Nat, c < n → ¬ rd m c < rd M c) ∨ ∃ b : Nat, b < n ∧ bestTo M m n = (b : Int) ∧ rd m b < rd M b ∧ ∀ c : Nat, c < n → rd m c < rd M c → rd m b ≤ rd m c
 | 0 => .inl ⟨rfl, fun c hc => by omega⟩
 | n + 1 => by
  simp only [bestTo, bestStep]
  rcases best_spec M m n with ⟨h1, h2⟩ | ⟨b, hb, h1, h2, h3⟩
  ·
   by_cases c1 : rd m (n : Int) < rd M (n : Int)
   ·
    right
    refine ⟨n, by omega, by rw [if_pos c1, if_pos (by omega)], c1, fun c hc hcc => ?_⟩
    by_cases e : c = n
    ·
     subst e; omega
    ·
     exact absurd hcc (h2 c (by omega))
   ·
    left
    refine ⟨by rw [if_neg c1]; exact h1, fun c hc => ?_⟩
    by_cases e : c = n
    ·
     subst e; exact c1
    ·
     exact h2 c (by omega)
  ·
   right
   by_cases c1 : rd m (n : Int) < rd M (n : Int)
   ·
    rw [if_pos c1, if_neg (by omega), h1]
    by_cases c2 : rd m (n : Int) < rd m (b : Int)
    ·
     refine ⟨n, by omega, by rw [if_pos c2], c1, fun c hc hcc => ?_⟩
     by_cases e : c = n
     ·
      subst e; omega
     ·
      have := h3 c (by omega) hcc; omega
    ·
     refine ⟨b, by omega, by rw [if_neg c2], h2, fun c hc hcc => ?_⟩
     by_cases e : c = n
     ·
      subst e; omega
     ·
      exact h3 c (by omega) hcc
   ·
    rw [if_neg c1, h1]
    refine ⟨b, by omega, rfl, h2, fun c hc hcc => ?_⟩
    by_cases e : c = n
    ·
     subst e; exact absurd hcc c1
    ·
     exact h3 c (by omega) hcc
/-- What is leased, in short. -/
theorem Lease_cases {M : List Int} {L : List S29} (h : RightL M L) (hL : L.length ≤ 4398046510000) (who : Int) :
  (who < 1 ∧ pool_Lease.f M L who = some (M, L, 0, 0, 0, 0, 1)) ∨
  (¬ who < 1 ∧ (∃ s, L.find? (ofP who) = some s) ∧ pool_Lease.f M L who = some (M, L, 0, 0, 0, 0, 14)) ∨
  (¬ who < 1 ∧ L.find? (ofP who) = none ∧ (∀ c : Nat, c < M.length → ¬ (cntN c L : Int) < rd M c) ∧ pool_Lease.f M L who = some (M, L, 0, 0, 0, 0, 12)) ∨
  (¬ who < 1 ∧ L.find? (ofP who) = none ∧ ∃ b : Nat, b < M.length ∧ (cntN b L : Int) < rd M b ∧ (∀ c : Nat, c < M.length → (cntN c L : Int) < rd M c → (cntN b L : Int) ≤ cntN c L) ∧ bestTo M (cntsL M L) M.length = b ∧
   pool_Lease.f M L who = some (M, insL ⟨b, chL b L, 1, who⟩ L, (b : Int), chL b L, 1, who, 0)) := by
 by_cases h1 : who < 1
 ·
  exact .inl ⟨h1, by unfold pool_Lease.f; rw [if_pos h1]⟩
 ·
  cases hf : L.find? (ofP who) with
  | some s => exact .inr (.inl ⟨h1, ⟨s, rfl⟩, by unfold pool_Lease.f; rw [if_neg h1, hf]⟩)
  | none =>
   have hg : L.length ≤ 4398046510000 ∧ M.length ≤ 17592186044416 ∧ (L.all fun s => decide (0 ≤ s.f0) && decide (s.f0 < (M.length : Int))) = true := by
    refine ⟨hL, by have := h.len; omega, ?_⟩
    rw [List.all_eq_true]
    intro s hs
    have := h.ok s hs
    simp only [Bool.and_eq_true, decide_eq_true_eq]
    exact ⟨this.1, this.2.1⟩
   have hval : pool_Lease.f M L who = if bestTo M (cntsL M L) M.length < 0 then some (M, L, 0, 0, 0, 0, 12) else some (M, insL ⟨bestTo M (cntsL M L) M.length, chL (bestTo M (cntsL M L) M.length) L, 1, who⟩ L, bestTo M (cntsL M L) M.length, chL (bestTo M (cntsL M L) M.length) L, 1, who, 0) := by
    unfold pool_Lease.f
    rw [if_neg h1, hf]
    simp only []
    rw [if_pos hg]
   have hm : ∀ c : Nat, c < M.length → rd (cntsL M L) c = cntN c L := by
    intro c hc
    have := cnts_eq L (List.replicate M.length 0) c (by simpa using hc) (fun s hs => by have := h.ok s hs; rw [List.length_replicate]; exact ⟨this.1, this.2.1⟩)
    rw [rd_replicate] at this
    unfold cntsL
    omega
   rcases best_spec M (cntsL M L) M.length with ⟨b1, b2⟩ | ⟨b, hb, b1, b2, b3⟩
   ·
    refine .inr (.inr (.inl ⟨h1, rfl, fun c hc => ?_, by rw [hval, b1, if_pos (by decide)]⟩))
    have := b2 c hc
    rwa [hm c hc] at this
   ·
    refine .inr (.inr (.inr ⟨h1, rfl, b, hb, by rw [← hm b hb]; exact b2, fun c hc hcc => ?_, b1, by rw [hval, b1, if_neg (by omega)]⟩))
    rw [← hm b hb, ← hm c hc]
    exact b3 c hc (by rw [hm c hc]; exact hcc)

/-! The channel. -/
theorem ch_same (b : Int) : ∀ (L : List S29) (ch : Int), (∀ s ∈ L, s.f0 = b → ch < s.f1) → L.foldl (chStep b) ch = ch
 | [], _, _ => rfl
 | s :: r, ch, h => by
  have hs : chStep b ch s = ch := by
   unfold chStep
   split
   ·
    rename_i e
    have := h s List.mem_cons_self e
    rw [if_neg (by omega)]
   ·
    rfl
  rw [List.foldl_cons, hs]
  exact ch_same b r ch (fun t ht => h t (List.mem_cons_of_mem _ ht))
/-- From ch on: the first number that isn't there. -/
theorem ch_spec (b : Int) : ∀ (L : List S29) (ch : Int), L.Pairwise ltS → (∀ s ∈ L, s.f0 = b → ch ≤ s.f1) →
  (∀ s ∈ L, s.f0 = b → s.f1 ≠ L.foldl (chStep b) ch) ∧ ch ≤ L.foldl (chStep b) ch ∧ L.foldl (chStep b) ch ≤ ch + cntN b L ∧ (∀ j : Int, ch ≤ j → j < L.foldl (chStep b) ch → ∃ s ∈ L, s.f0 = b ∧ s.f1 = j)
 | [], ch, _, _ => ⟨fun s hs => (by cases hs), (by simp), (by simp [cntN]), fun j h1 h2 => (by simp at h2; omega)⟩
 | s :: r, ch, hp, h => by
  have hp' := List.pairwise_cons.1 hp
  by_cases e : s.f0 = b
  ·
   have hs := h s List.mem_cons_self e
   by_cases e2 : s.f1 = ch
   ·
    have hst : chStep b ch s = ch + 1 := by unfold chStep; rw [if_pos e, if_pos e2]
    obtain ⟨k1, k2, k3, k4⟩ := ch_spec b r (ch + 1) hp'.2 (fun t ht et => by
     have := hp'.1 t ht
     unfold ltS at this
     omega)
    rw [List.foldl_cons, hst]
    have hc : cntN b (s :: r) = cntN b r + 1 := by simp only [cntN, List.countP_cons, e, beq_self_eq_true, if_true]
    refine ⟨fun t ht et => ?_, by omega, by rw [hc]; omega, fun j h1 h2 => ?_⟩
    ·
     rcases List.mem_cons.1 ht with rfl | ht
     ·
      omega
     ·
      exact k1 t ht et
    ·
     by_cases ej : j = ch
     ·
      exact ⟨s, List.mem_cons_self, e, by omega⟩
     ·
      obtain ⟨t, ht, h3⟩ := k4 j (by omega) h2
      exact ⟨t, List.mem_cons_of_mem _ ht, h3⟩
   ·
    have hst : chStep b ch s = ch := by unfold chStep; rw [if_pos e, if_neg e2]
    have hsame : r.foldl (chStep b) ch = ch := ch_same b r ch (fun t ht et => by
     have := hp'.1 t ht
     unfold ltS at this
     omega)
    rw [List.foldl_cons, hst, hsame]
    refine ⟨fun t ht et => ?_, by omega, by omega, fun j h1 h2 => by omega⟩
    rcases List.mem_cons.1 ht with rfl | ht
    ·
     exact e2
    ·
     have := hp'.1 t ht
     unfold ltS at this
     omega
  ·
   have hst : chStep b ch s = ch := by unfold chStep; rw [if_neg e]
   obtain ⟨k1, k2, k3, k4⟩ := ch_spec b r ch hp'.2 (fun t ht et => h t (List.mem_cons_of_mem _ ht) et)
   have hc : cntN b (s :: r) = cntN b r := by
    have : (s.f0 == b) = false := by simpa using e
    simp only [cntN, List.countP_cons, this, Bool.false_eq_true, if_false, Nat.add_zero]
   rw [List.foldl_cons, hst, hc]
   refine ⟨fun t ht et => ?_, k2, k3, fun j h1 h2 => ?_⟩
   ·
    rcases List.mem_cons.1 ht with rfl | ht
    ·
     exact absurd et e
    ·
     exact k1 t ht et
   ·
    obtain ⟨t, ht, h3⟩ := k4 j h1 h2
    exact ⟨t, List.mem_cons_of_mem _ ht, h3⟩
theorem ch_right {M : List Int} {L : List S29} (h : RightL M L) (b : Int) : (∀ s ∈ L, s.f0 = b → s.f1 ≠ chL b L) ∧ 1 ≤ chL b L ∧ chL b L ≤ 1 + cntN b L ∧ (∀ j : Int, 1 ≤ j → j < chL b L → ∃ s ∈ L, s.f0 = b ∧ s.f1 = j) :=
 ch_spec b L 1 h.lt (fun s hs _ => (h.ok s hs).2.2.1)
end Go.Proofs.Ytgiofigjnchfeaa.Q

namespace Go.Proofs.Ytgiofigjnchfeaa.Q
open Go.RowKit Go.Proofs.YtgiofigjnchfeaaW.PrintWords Go.Proofs.YtgiofigjnchfeaaW.PrintLast Go.Proofs.YtgiofigjnchfeaaW.PrintMore
set_option linter.unusedVariables false
set_option linter.unusedSimpArgs false

theorem idxPF_shift {α : Type} (p : α → Bool) : ∀ (l : List α) (k : Nat), idxPF p l (k + 1) = if idxPF p l k < 0 then -1 else idxPF p l k + 1
 | [], k => by simp [idxPF]
 | x :: r, k => by
  cases h : p x with
  | true => simp only [idxPF, h, if_true]; rw [if_neg (by omega)]; omega
  | false =>
   simp only [idxPF, h, Bool.false_eq_true, if_false]
   exact idxPF_shift p r (k + 1)
theorem idxPF_low {α : Type} (p : α → Bool) (l : List α) (k : Nat) : -1 ≤ idxPF p l k := by
 rcases idxPF_cases p l k with ⟨h, -⟩ | ⟨n, hn, h, -⟩ <;> omega
theorem insL_nil (s : S29) : insL s [] = [s] := by simp [insL, insAt, idxP, idxPF]
theorem insL_cons (s x : S29) (r : List S29) : insL s (x :: r) = if ltB s x = true then s :: x :: r else x :: insL s r := by
 cases h : ltB s x with
 | true =>
  have : insAt s (x :: r) = 0 := by simp [insAt, idxP, idxPF, h]
  simp [insL, this]
 | false =>
  have e1 : idxP (ltB s) (x :: r) = if idxP (ltB s) r < 0 then -1 else idxP (ltB s) r + 1 := by
   unfold idxP
   simp only [idxPF, h, Bool.false_eq_true, if_false]
   exact idxPF_shift _ r 0
  have : insAt s (x :: r) = insAt s r + 1 := by
   unfold insAt
   rw [e1]
   have := idxPF_low (ltB s) r 0
   by_cases hn : idxP (ltB s) r < 0
   ·
    rw [if_pos hn, if_pos (by omega), if_pos hn]; rfl
   ·
    rw [if_neg hn, if_neg (by omega), if_neg hn]; omega
  simp [insL, this]
theorem mem_insL (s t : S29) : ∀ (L : List S29), t ∈ insL s L ↔ t = s ∨ t ∈ L
 | [] => by simp [insL_nil]
 | x :: r => by
  rw [insL_cons]
  split
  ·
   simp
  ·
   simp only [List.mem_cons, mem_insL s t r]
   constructor
   ·
    rintro (h | h | h) <;> simp [h]
   ·
    rintro (h | h | h) <;> simp [h]
theorem insL_length (s : S29) : ∀ (L : List S29), (insL s L).length = L.length + 1
 | [] => by simp [insL_nil]
 | x :: r => by
  rw [insL_cons]
  split
  ·
   simp
  ·
   simp [insL_length s r]
theorem ltB_iff (s x : S29) : ltB s x = true ↔ ltS s x := by
 unfold ltB ltS
 simp
theorem ltS_total {a b : S29} (h : ¬ (a.f0 = b.f0 ∧ a.f1 = b.f1)) (k : ¬ ltS a b) : ltS b a := by unfold ltS at *; omega
theorem insL_sorted (s : S29) : ∀ (L : List S29), L.Pairwise ltS → (∀ x ∈ L, ¬ (s.f0 = x.f0 ∧ s.f1 = x.f1)) → (insL s L).Pairwise ltS
 | [], _, _ => by simp [insL_nil]
 | x :: r, hp, hs => by
  have hp' := List.pairwise_cons.1 hp
  rw [insL_cons]
  split
  ·
   rename_i h
   rw [ltB_iff] at h
   refine List.pairwise_cons.2 ⟨fun y hy => ?_, hp⟩
   rcases List.mem_cons.1 hy with rfl | hy
   ·
    exact h
   ·
    exact ltS_trans h (hp'.1 y hy)
  ·
   rename_i h
   rw [ltB_iff] at h
   have hx := ltS_total (hs x List.mem_cons_self) h
   refine List.pairwise_cons.2 ⟨fun y hy => ?_, insL_sorted s r hp'.2 (fun y hy => hs y (List.mem_cons_of_mem _ hy))⟩
   rcases (mem_insL s y r).1 hy with rfl | hy
   ·
    exact hx
   ·
    exact hp'.1 y hy
theorem whoNe_symm {a b : S29} (h : whoNe a b) : whoNe b a := by unfold whoNe at *; omega
theorem insL_who (s : S29) : ∀ (L : List S29), L.Pairwise whoNe → (∀ x ∈ L, whoNe s x) → (insL s L).Pairwise whoNe
 | [], _, _ => by simp [insL_nil]
 | x :: r, hp, hs => by
  have hp' := List.pairwise_cons.1 hp
  rw [insL_cons]
  split
  ·
   exact List.pairwise_cons.2 ⟨hs, hp⟩
  ·
   refine List.pairwise_cons.2 ⟨fun y hy => ?_, insL_who s r hp'.2 (fun y hy => hs y (List.mem_cons_of_mem _ hy))⟩
   rcases (mem_insL s y r).1 hy with rfl | hy
   ·
    exact whoNe_symm (hs x List.mem_cons_self)
   ·
    exact hp'.1 y hy

/-! One alone. -/
theorem key_inj {L : List S29} (h : L.Pairwise ltS) {x y : S29} (hx : x ∈ L) (hy : y ∈ L) (e0 : x.f0 = y.f0) (e1 : x.f1 = y.f1) : x = y := by
 obtain ⟨i, hi, rfl⟩ := List.getElem_of_mem hx
 obtain ⟨j, hj, rfl⟩ := List.getElem_of_mem hy
 have hl := List.pairwise_iff_getElem.1 h
 rcases Nat.lt_trichotomy i j with hij | hij | hij
 ·
  have := hl i j hi hj hij; unfold ltS at this; omega
 ·
  subst hij; rfl
 ·
  have := hl j i hj hi hij; unfold ltS at this; omega
theorem who_inj {L : List S29} (h : L.Pairwise whoNe) {x y : S29} (hx : x ∈ L) (hy : y ∈ L) (e : x.f3 = y.f3) (e0 : x.f3 ≠ 0) : x = y := by
 obtain ⟨i, hi, rfl⟩ := List.getElem_of_mem hx
 obtain ⟨j, hj, rfl⟩ := List.getElem_of_mem hy
 have hl := List.pairwise_iff_getElem.1 h
 rcases Nat.lt_trichotomy i j with hij | hij | hij
 ·
  have := hl i j hi hj hij; unfold whoNe at this; omega
 ·
  subst hij; rfl
 ·
  have := hl j i hj hi hij; unfold whoNe at this; omega
theorem find_unique {L : List S29} {p : S29 → Bool} {x : S29} (hx : x ∈ L) (hp : p x = true) (hu : ∀ y ∈ L, p y = true → y = x) : L.find? p = some x := by
 cases hf : L.find? p with
 | none => exact absurd hp (by simpa using List.find?_eq_none.1 hf x hx)
 | some y => rw [hu y (List.mem_of_find?_eq_some hf) (List.find?_some hf)]
theorem atP_iff (c ch : Int) (s : S29) : atP c ch s = true ↔ s.f0 = c ∧ s.f1 = ch := by simp [atP]
theorem ofP_iff (who : Int) (s : S29) : ofP who s = true ↔ s.f3 = who ∧ 0 < who := by simp [ofP]
theorem find_at {L : List S29} (h : L.Pairwise ltS) {x : S29} (hx : x ∈ L) : L.find? (atP x.f0 x.f1) = some x :=
 find_unique hx ((atP_iff _ _ _).2 ⟨rfl, rfl⟩) (fun y hy hp => key_inj h hy hx ((atP_iff _ _ _).1 hp).1 ((atP_iff _ _ _).1 hp).2)
theorem find_at_none {L : List S29} {c ch : Int} (h : ∀ s ∈ L, s.f0 = c → s.f1 ≠ ch) : L.find? (atP c ch) = none := by
 rw [List.find?_eq_none]
 intro s hs hp
 exact h s hs ((atP_iff _ _ _).1 hp).1 ((atP_iff _ _ _).1 hp).2
theorem find_of {L : List S29} (h : L.Pairwise whoNe) {x : S29} (hx : x ∈ L) (h0 : 0 < x.f3) : L.find? (ofP x.f3) = some x :=
 find_unique hx ((ofP_iff _ _).2 ⟨rfl, h0⟩) (fun y hy hp => who_inj h hy hx ((ofP_iff _ _).1 hp).1 (by have := ((ofP_iff _ _).1 hp).1; omega))
theorem of_none {L : List S29} {who : Int} (h : L.find? (ofP who) = none) (hw : ¬ who < 1) : ∀ s ∈ L, s.f3 ≠ who := by
 intro s hs e
 exact List.find?_eq_none.1 h s hs ((ofP_iff _ _).2 ⟨e, by omega⟩)

/-! What is right stays right. -/
theorem RightL.lease {M : List Int} {L : List S29} (h : RightL M L) {b : Nat} (hb : b < M.length) (hcnt : (cntN b L : Int) < rd M b) {who : Int} (hw : ¬ who < 1) (hf : L.find? (ofP who) = none) : RightL M (insL ⟨b, chL b L, 1, who⟩ L) := by
 obtain ⟨k1, k2, k3, -⟩ := ch_right h b
 refine ⟨h.len, h.most, fun s hs => ?_, insL_sorted _ L h.lt (fun x hx => ?_), insL_who _ L h.who (fun x hx => ?_)⟩
 ·
  rcases (mem_insL _ s L).1 hs with rfl | hs
  ·
   exact ⟨by simp, by simpa using hb, k2, by show chL b L ≤ rd M b; omega, by simp, by simp, by simp; omega, by simp; omega⟩
  ·
   exact h.ok s hs
 ·
  rintro ⟨e0, e1⟩
  exact k1 x hx e0.symm e1.symm
 ·
  unfold whoNe
  have := of_none hf hw x hx
  simp only
  omega
theorem RightL.sub {M : List Int} {L L' : List S29} (h : RightL M L) (hs : L'.Sublist L) : RightL M L' :=
 ⟨h.len, h.most, fun s hs' => h.ok s (hs.subset hs'), h.lt.sublist hs, h.who.sublist hs⟩

theorem setL_map (p ok : S29 → Bool) (upd : S29 → S29) : ∀ (L L' : List S29), setL p ok upd L = some L' → (∀ x ∈ L, ∀ y ∈ L, p x = true → p y = true → x = y) → L.Nodup → L' = L.map (fun x => if p x = true then upd x else x) ∧ ∃ x ∈ L, p x = true ∧ ok x = true
 | [], L', h, _, _ => by simp [setL] at h
 | x :: r, L', h, hu, hn => by
  cases hp : p x with
  | true =>
   simp only [setL, hp, if_true] at h
   by_cases ho : ok x = true
   ·
    rw [if_pos ho] at h
    obtain rfl := Option.some.inj h
    refine ⟨?_, x, List.mem_cons_self, hp, ho⟩
    rw [List.map_cons, if_pos hp]
    congr 1
    have : ∀ y ∈ r, p y = false := by
     intro y hy
     cases hpy : p y with
     | false => rfl
     | true =>
      have e := hu x List.mem_cons_self y (List.mem_cons_of_mem _ hy) hp hpy
      subst e
      exact absurd hy (List.nodup_cons.1 hn).1
    rw [List.map_congr_left (g := id) (fun y hy => by rw [this y hy]; rfl)]
    simp
   ·
    rw [if_neg ho] at h; cases h
  | false =>
   simp only [setL, hp, Bool.false_eq_true, if_false] at h
   obtain ⟨L1, h1, rfl⟩ := Option.map_eq_some_iff.1 h
   obtain ⟨e, z, hz, h2⟩ := setL_map p ok upd r L1 h1 (fun a ha b hb => hu a (List.mem_cons_of_mem _ ha) b (List.mem_cons_of_mem _ hb)) (List.nodup_cons.1 hn).2
   refine ⟨?_, z, List.mem_cons_of_mem _ hz, h2⟩
   rw [List.map_cons, hp, e]
   rfl
theorem setL_no (p ok : S29 → Bool) (upd : S29 → S29) : ∀ (L : List S29), setL p ok upd L = none → ∀ x, L.find? p = some x → ok x = false
 | [], _, x, h => by simp at h
 | y :: r, h, x, hf => by
  cases hp : p y with
  | true =>
   simp only [setL, hp, if_true] at h
   have e : y = x := by simpa [hp] using hf
   subst e
   cases ho : ok y with
   | false => rfl
   | true => rw [if_pos ho] at h; cases h
  | false =>
   simp only [setL, hp, Bool.false_eq_true, if_false] at h
   exact setL_no p ok upd r (by simpa using h) x (by simpa [hp] using hf)
theorem sorted_nodup {L : List S29} (h : L.Pairwise ltS) : L.Nodup := h.imp (fun {a b} hab e => by subst e; exact ltS_irrefl a hab)
theorem at_unique {L : List S29} (h : L.Pairwise ltS) (c ch : Int) : ∀ x ∈ L, ∀ y ∈ L, atP c ch x = true → atP c ch y = true → x = y := by
 intro x hx y hy h1 h2
 have a := (atP_iff _ _ _).1 h1
 have b := (atP_iff _ _ _).1 h2
 exact key_inj h hx hy (by omega) (by omega)
/-- One is changed, its place is not. -/
theorem RightL.upd {M : List Int} {L : List S29} (h : RightL M L) (p : S29 → Bool) (upd : S29 → S29) (h0 : ∀ x, (upd x).f0 = x.f0) (h1 : ∀ x, (upd x).f1 = x.f1) (hok : ∀ x ∈ L, p x = true → slotOk M (upd x)) (hw : ∀ x, (upd x).f3 = x.f3 ∨ (upd x).f3 = 0) : RightL M (L.map (fun x => if p x = true then upd x else x)) := by
 refine ⟨h.len, h.most, fun s hs => ?_, ?_, ?_⟩
 ·
  obtain ⟨x, hx, rfl⟩ := List.mem_map.1 hs
  by_cases hp : p x = true
  ·
   simp only [if_pos hp]; exact hok x hx hp
  ·
   simp only [if_neg hp]; exact h.ok x hx
 ·
  rw [List.pairwise_map]
  refine h.lt.imp (fun {a b} hab => ?_)
  have e : ∀ x : S29, (if p x = true then upd x else x).f0 = x.f0 ∧ (if p x = true then upd x else x).f1 = x.f1 := by
   intro x
   split
   ·
    exact ⟨h0 x, h1 x⟩
   ·
    exact ⟨rfl, rfl⟩
  unfold ltS at *
  rw [(e a).1, (e a).2, (e b).1, (e b).2]
  exact hab
 ·
  rw [List.pairwise_map]
  refine h.who.imp (fun {a b} hab => ?_)
  have e : ∀ x : S29, (if p x = true then upd x else x).f3 = x.f3 ∨ (if p x = true then upd x else x).f3 = 0 := by
   intro x
   split
   ·
    exact hw x
   ·
    exact .inl rfl
  have ea := e a
  have eb := e b
  unfold whoNe at *
  omega
end Go.Proofs.Ytgiofigjnchfeaa.Q

namespace Go.Proofs.Ytgiofigjnchfeaa.Q
open Go.RowKit Go.Proofs.YtgiofigjnchfeaaW.PrintWords Go.Proofs.YtgiofigjnchfeaaW.PrintLast Go.Proofs.YtgiofigjnchfeaaW.PrintMore
set_option linter.unusedVariables false
set_option linter.unusedSimpArgs false

theorem shown_ev : Ev (fun k => interchangelaw13_shown.f k) true := Ev.succ (h := fun _ => some true) interchangelaw13_shown_succ (Ev.const _)
theorem At_mem {M : List Int} {L : List S29} (h : L.Pairwise ltS) {x : S29} (hx : x ∈ L) : pool_At.f M L x.f0 x.f1 = some (x.f0, x.f1, x.f2, x.f3, true) := by
 unfold pool_At.f; rw [find_at h hx]
theorem At_none {M : List Int} {L : List S29} {c ch : Int} (h : ∀ s ∈ L, s.f0 = c → s.f1 ≠ ch) : pool_At.f M L c ch = some (0, 0, 0, 0, false) := by
 unfold pool_At.f; rw [find_at_none h]


theorem setL_none_of (p ok : S29 → Bool) (upd : S29 → S29) : ∀ (L : List S29) (x : S29), L.find? p = some x → ok x = false → setL p ok upd L = none
 | [], x, h, _ => by simp at h
 | y :: r, x, h, ho => by
  cases hp : p y with
  | true =>
   have e : y = x := by simpa [hp] using h
   subst e
   simp [setL, hp, ho]
  | false =>
   simp only [setL, hp, Bool.false_eq_true, if_false]
   rw [setL_none_of p ok upd r x (by simpa [hp] using h) ho]
   rfl
def relOk (x : S29) : Bool := ([1, 2] : List Int).any fun y => x.f2 == y
theorem Release_eq (M : List Int) (L : List S29) (c ch : Int) (hL : L.length ≤ 4398046511000) : pool_Release.f M L c ch = some (setF (atP c ch) relOk relS M L) := by
 unfold pool_Release.f
 rw [if_pos hL]
 rfl
theorem Release_again {M : List Int} {L : List S29} (h : RightL M L) (hL : L.length ≤ 4398046511000) {x : S29} (hx : x ∈ L) (h3 : x.f2 = 3) : pool_Release.f M L x.f0 x.f1 = some (M, L, 11) := by
 rw [Release_eq M L _ _ hL]
 unfold setF
 rw [setL_none_of _ relOk relS L x (find_at h.lt hx) (by simp [relOk, h3])]
theorem filter_one {L : List S29} (h : L.Pairwise ltS) {x : S29} (hx : x ∈ L) (p : S29 → Bool) (hp : p x = true) (hu : ∀ y ∈ L, p y = true → y = x) : (L.filter p).length = 1 := by
 have hs : (L.filter p).Pairwise ltS := h.sublist List.filter_sublist
 have hm : x ∈ L.filter p := List.mem_filter.2 ⟨hx, hp⟩
 have ha : ∀ y ∈ L.filter p, y = x := fun y hy => hu y (List.mem_filter.1 hy).1 (List.mem_filter.1 hy).2
 generalize L.filter p = F at hs hm ha
 match F, hs, hm, ha with
 | [], _, hm, _ => cases hm
 | [_], _, _, _ => rfl
 | a :: b :: r, hs, _, ha =>
  have e1 := ha a List.mem_cons_self
  have e2 := ha b (List.mem_cons_of_mem _ List.mem_cons_self)
  have := (List.pairwise_cons.1 hs).1 b List.mem_cons_self
  rw [e1, e2] at this
  exact absurd this (ltS_irrefl x)
theorem len_filter {α : Type} (p : α → Bool) : ∀ l : List α, l.length = (l.filter p).length + (l.filter fun x => !p x).length
 | [] => rfl
 | x :: r => by
  have := len_filter p r
  cases h : p x <;> simp [h] <;> omega
end Go.Proofs.Ytgiofigjnchfeaa.Q
