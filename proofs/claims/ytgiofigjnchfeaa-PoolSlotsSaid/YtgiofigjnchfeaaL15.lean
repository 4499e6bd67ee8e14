/- Plain laws of chapter 13: what is right, how many, the same. Plain laws of chapter 13: a right pool, what is leased. Plain laws of chapter 13: what is put in, changed, taken out. What all of them use. -/
import Derived.Test.YtgiofigjnchfeaaH12
import Derived.Test.YtgiofigjnchfeaaQ11
import Derived.Test.YtgiofigjnchfeaaQ13
import Derived.Test.YtgiofigjnchfeaaQ15
import Derived.Test.YtgiofigjnchfeaaH14
import Derived.Test.YtgiofigjnchfeaaH10
namespace Go.Proofs.Ytgiofigjnchfeaa.Q
open Go.RowKit Go.Proofs.YtgiofigjnchfeaaW.PrintWords Go.Proofs.YtgiofigjnchfeaaW.PrintLast Go.Proofs.YtgiofigjnchfeaaW.PrintMore
set_option linter.unusedVariables false
set_option linter.unusedSimpArgs false

/-- With fuel enough it answers v. -/
def Ev {α : Type} (g : Nat → Option α) (v : α) : Prop := ∃ K, ∀ k, K ≤ k → g k = some v
theorem Ev.pure {α : Type} {g : Nat → Option α} {v : α} (h : ∀ k, g k = some v) : Ev g v := ⟨0, fun k _ => h k⟩
theorem Ev.const {α : Type} (v : α) : Ev (fun _ => some v) v := ⟨0, fun _ _ => rfl⟩
theorem Ev.succ {α : Type} {g h : Nat → Option α} {v : α} (e : ∀ k, g (k + 1) = h k) (hh : Ev h v) : Ev g v := by
 obtain ⟨K, hK⟩ := hh
 refine ⟨K + 1, fun k hk => ?_⟩
 cases k with
 | zero => omega
 | succ k => rw [e k]; exact hK k (by omega)
theorem Ev.congr {α : Type} {g h : Nat → Option α} {v : α} (e : ∀ k, g k = h k) (hh : Ev h v) : Ev g v := by
 obtain ⟨K, hK⟩ := hh
 exact ⟨K, fun k hk => (e k).trans (hK k hk)⟩
theorem Ev.bind {α β : Type} {g : Nat → Option α} {h : Nat → α → Option β} {a : α} {v : β} (hg : Ev g a) (hh : Ev (fun k => h k a) v) : Ev (fun k => (g k).bind (h k)) v := by
 obtain ⟨K1, h1⟩ := hg
 obtain ⟨K2, h2⟩ := hh
 exact ⟨max K1 K2, fun k hk => by show (g k).bind (h k) = some v; rw [h1 k (by omega)]; exact h2 k (by omega)⟩
theorem Ev.run {α : Type} {g : Nat → Option α} {v : α} (h : Ev g v) : ∃ k, g k = some v := by
 obtain ⟨K, hK⟩ := h
 exact ⟨K, hK K (Nat.le_refl _)⟩

theorem w64 {n N : Nat} (h : n < N) (hN : N ≤ 4611686018427387904) : wrap64 ((n : Int) + 1) = ((n + 1 : Nat) : Int) := by
 unfold wrap64; omega
theorem rd29_nat {L : List S29} {i : Nat} (h : i < L.length) : rd_T29 L (i : Int) = L[i] := by simp [rd_T29, h]
theorem rd_nat {M : List Int} {i : Nat} (h : i < M.length) : rd M (i : Int) = M[i] := by simp [rd, h]

/-! What is right. -/
def okAt (M : List Int) (L : List S29) (i : Nat) : Prop :=
 0 ≤ (rd_T29 L i).f0 ∧ (rd_T29 L i).f0 < (M.length : Int) ∧ 1 ≤ (rd_T29 L i).f1 ∧ (rd_T29 L i).f1 ≤ rd M (rd_T29 L i).f0 ∧ 1 ≤ (rd_T29 L i).f2 ∧ (rd_T29 L i).f2 ≤ 3 ∧ 0 ≤ (rd_T29 L i).f3 ∧
 ((rd_T29 L i).f2 = 3 ↔ (rd_T29 L i).f3 = 0) ∧
 (0 < i → ¬ ((rd_T29 L ((i : Int) - 1)).f0 > (rd_T29 L i).f0) ∧ ((rd_T29 L ((i : Int) - 1)).f0 = (rd_T29 L i).f0 → (rd_T29 L ((i : Int) - 1)).f1 < (rd_T29 L i).f1)) ∧
 (∀ t : Nat, t < i → (rd_T29 L i).f3 = 0 ∨ (rd_T29 L t).f3 ≠ (rd_T29 L i).f3)
def RightP (M : List Int) (L : List S29) : Prop :=
 M.length ≤ 64 ∧ (∀ i : Nat, i < M.length → 0 ≤ rd M i ∧ rd M i ≤ 65535) ∧ ∀ i : Nat, i < L.length → okAt M L i

theorem Right_l2 (M : List Int) (L : List S29) (hL : L.length ≤ 4611686018427387904) (i : Nat) (hi : i < L.length) (a b c s3 : Int) (b' : Bool) (hb' : Ev (fun k => interchangeref13_Right.l1 k (wrap64 ((i : Int) + 1)) M L) b') :
  ∀ (r j : Nat), j + r = i → ∃ v : Bool, Ev (fun k => interchangeref13_Right.l2 k i j M L a b c s3) v ∧ (v = true ↔ (∀ t : Nat, j ≤ t → t < i → s3 = 0 ∨ (rd_T29 L t).f3 ≠ s3) ∧ b' = true)
 | 0, j, hj => by
  obtain rfl : j = i := by omega
  refine ⟨b', Ev.succ (fun k => ?_) hb', ?_⟩
  ·
   simp only [interchangeref13_Right.l2]
   rw [if_neg (by omega)]
  ·
   constructor
   ·
    exact fun h => ⟨fun t h1 h2 => by omega, h⟩
   ·
    exact fun h => h.2
 | r + 1, j, hj => by
  obtain ⟨v, hv, hv2⟩ := Right_l2 M L hL i hi a b c s3 b' hb' r (j + 1) (by omega)
  have hji : (j : Int) < (i : Int) := by omega
  have hw := w64 (n := j) (N := L.length) (by omega) hL
  by_cases h0 : s3 = 0
  ·
   refine ⟨v, Ev.succ (fun k => ?_) hv, ?_⟩
   ·
    simp only [interchangeref13_Right.l2]
    rw [if_pos hji, if_pos h0, hw]
   ·
    rw [hv2]
    exact ⟨fun h => ⟨fun t _ _ => .inl h0, h.2⟩, fun h => ⟨fun t _ _ => .inl h0, h.2⟩⟩
  ·
   by_cases h1 : (rd_T29 L j).f3 = s3
   ·
    refine ⟨false, Ev.succ (h := fun _ => some false) (fun k => ?_) (Ev.const _), ?_⟩
    ·
     simp only [interchangeref13_Right.l2]
     rw [if_pos hji, if_neg h0, if_pos (by omega), if_pos (by omega), if_pos h1]
    ·
     constructor
     ·
      intro h; cases h
     ·
      intro h
      rcases h.1 j (Nat.le_refl _) (by omega) with h2 | h2
      ·
       exact absurd h2 h0
      ·
       exact absurd h1 h2
   ·
    refine ⟨v, Ev.succ (fun k => ?_) hv, ?_⟩
    ·
     simp only [interchangeref13_Right.l2]
     rw [if_pos hji, if_neg h0, if_pos (by omega), if_pos (by omega), if_neg h1, hw]
    ·
     rw [hv2]
     constructor
     ·
      rintro ⟨h2, h3⟩
      refine ⟨fun t ht1 ht2 => ?_, h3⟩
      by_cases e : t = j
      ·
       subst e; exact .inr h1
      ·
       exact h2 t (by omega) ht2
     ·
      rintro ⟨h2, h3⟩
      exact ⟨fun t ht1 ht2 => h2 t (by omega) ht2, h3⟩

theorem Right_j4 (M : List Int) (L : List S29) (hL : L.length ≤ 4611686018427387904) (i : Nat) (hi : i < L.length) (a b c s3 : Int) (b' : Bool) (hb' : Ev (fun k => interchangeref13_Right.l1 k (wrap64 ((i : Int) + 1)) M L) b') (x : Bool) :
  ∃ v : Bool, Ev (fun k => interchangeref13_Right.j4 k i x M L a b c s3) v ∧ (v = true ↔ x = false ∧ (∀ t : Nat, t < i → s3 = 0 ∨ (rd_T29 L t).f3 ≠ s3) ∧ b' = true) := by
 cases x with
 | true => exact ⟨false, Ev.succ (h := fun _ => some false) (fun k => by simp only [interchangeref13_Right.j4, if_true]) (Ev.const _), by simp⟩
 | false =>
  obtain ⟨v, hv, hv2⟩ := Right_l2 M L hL i hi a b c s3 b' hb' i 0 (by omega)
  refine ⟨v, Ev.succ (fun k => ?_) hv, ?_⟩
  ·
   simp only [interchangeref13_Right.j4, Bool.false_eq_true, if_false]
   rfl
  ·
   rw [hv2]
   simp

theorem Right_j3 (M : List Int) (L : List S29) (hL : L.length ≤ 4611686018427387904) (i : Nat) (hi : i < L.length) (s0 s1 c s3 : Int) (b' : Bool) (hb' : Ev (fun k => interchangeref13_Right.l1 k (wrap64 ((i : Int) + 1)) M L) b') (x : Bool) :
  ∃ v : Bool, Ev (fun k => interchangeref13_Right.j3 k i x M L s0 s1 c s3) v ∧ (v = true ↔ x = false ∧ (0 < i → ¬ ((rd_T29 L ((i : Int) - 1)).f0 > s0) ∧ ((rd_T29 L ((i : Int) - 1)).f0 = s0 → (rd_T29 L ((i : Int) - 1)).f1 < s1)) ∧ (∀ t : Nat, t < i → s3 = 0 ∨ (rd_T29 L t).f3 ≠ s3) ∧ b' = true) := by
 cases x with
 | true => exact ⟨false, Ev.succ (h := fun _ => some false) (fun k => by simp only [interchangeref13_Right.j3, if_true]) (Ev.const _), by simp⟩
 | false =>
  by_cases h0 : 0 < i
  ·
   have hw : wrap64 ((i : Int) - 1) = (i : Int) - 1 := by unfold wrap64; omega
   by_cases h1 : (rd_T29 L ((i : Int) - 1)).f0 > s0
   ·
    obtain ⟨v, hv, hv2⟩ := Right_j4 M L hL i hi s0 s1 c s3 b' hb' true
    refine ⟨v, Ev.succ (fun k => ?_) hv, ?_⟩
    ·
     simp only [interchangeref13_Right.j3, Bool.false_eq_true, if_false]
     rw [if_pos (by omega), hw, if_pos (by omega), if_pos (by omega), if_pos h1]
    ·
     rw [hv2]; simp [h0, h1]
   ·
    by_cases h2 : (rd_T29 L ((i : Int) - 1)).f0 = s0
    ·
     obtain ⟨v, hv, hv2⟩ := Right_j4 M L hL i hi s0 s1 c s3 b' hb' (decide ((rd_T29 L ((i : Int) - 1)).f1 ≥ s1))
     refine ⟨v, Ev.succ (fun k => ?_) hv, ?_⟩
     ·
      simp only [interchangeref13_Right.j3, Bool.false_eq_true, if_false]
      rw [if_pos (by omega), hw, if_pos (by omega), if_pos (by omega), if_neg h1, if_pos h2]
     ·
      rw [hv2]; simp [h0, h1, h2]
    ·
     obtain ⟨v, hv, hv2⟩ := Right_j4 M L hL i hi s0 s1 c s3 b' hb' false
     refine ⟨v, Ev.succ (fun k => ?_) hv, ?_⟩
     ·
      simp only [interchangeref13_Right.j3, Bool.false_eq_true, if_false]
      rw [if_pos (by omega), hw, if_pos (by omega), if_pos (by omega), if_neg h1, if_neg h2]
     ·
      rw [hv2]; simp [h0, h1, h2]
  ·
   obtain ⟨v, hv, hv2⟩ := Right_j4 M L hL i hi s0 s1 c s3 b' hb' false
   refine ⟨v, Ev.succ (fun k => ?_) hv, ?_⟩
   ·
    simp only [interchangeref13_Right.j3, Bool.false_eq_true, if_false]
    rw [if_neg (by omega)]
   ·
    rw [hv2]; simp [h0]

theorem Right_j2 (M : List Int) (L : List S29) (hL : L.length ≤ 4611686018427387904) (i : Nat) (hi : i < L.length) (s0 s1 s2 s3 : Int) (b' : Bool) (hb' : Ev (fun k => interchangeref13_Right.l1 k (wrap64 ((i : Int) + 1)) M L) b') (x : Bool) :
  ∃ v : Bool, Ev (fun k => interchangeref13_Right.j2 k i x M L s0 s1 s2 s3) v ∧ (v = true ↔ x = false ∧ (s2 = 3 ↔ s3 = 0) ∧ (0 < i → ¬ ((rd_T29 L ((i : Int) - 1)).f0 > s0) ∧ ((rd_T29 L ((i : Int) - 1)).f0 = s0 → (rd_T29 L ((i : Int) - 1)).f1 < s1)) ∧ (∀ t : Nat, t < i → s3 = 0 ∨ (rd_T29 L t).f3 ≠ s3) ∧ b' = true) := by
 cases x with
 | true => exact ⟨false, Ev.succ (h := fun _ => some false) (fun k => by simp only [interchangeref13_Right.j2, if_true]) (Ev.const _), by simp⟩
 | false =>
  by_cases h2 : s2 = 3
  ·
   by_cases h3 : s3 = 0
   ·
    obtain ⟨v, hv, hv2⟩ := Right_j3 M L hL i hi s0 s1 s2 s3 b' hb' false
    refine ⟨v, Ev.succ (fun k => ?_) hv, ?_⟩
    ·
     simp only [interchangeref13_Right.j2, Bool.false_eq_true, if_false]
     rw [if_pos h2, if_pos h3]
    ·
     rw [hv2]; simp [h2, h3]
   ·
    obtain ⟨v, hv, hv2⟩ := Right_j3 M L hL i hi s0 s1 s2 s3 b' hb' true
    refine ⟨v, Ev.succ (fun k => ?_) hv, ?_⟩
    ·
     simp only [interchangeref13_Right.j2, Bool.false_eq_true, if_false]
     rw [if_pos h2, if_neg h3]
    ·
     rw [hv2]; simp [h2, h3]
  ·
   obtain ⟨v, hv, hv2⟩ := Right_j3 M L hL i hi s0 s1 s2 s3 b' hb' (s3 == 0)
   refine ⟨v, Ev.succ (fun k => ?_) hv, ?_⟩
   ·
    simp only [interchangeref13_Right.j2, Bool.false_eq_true, if_false]
    rw [if_neg h2]
   ·
    rw [hv2]; simp [h2]

theorem Right_l1 (M : List Int) (L : List S29) (hL : L.length ≤ 4611686018427387904) : ∀ (r i : Nat), i + r = L.length → ∃ v : Bool, Ev (fun k => interchangeref13_Right.l1 k i M L) v ∧ (v = true ↔ ∀ t : Nat, i ≤ t → t < L.length → okAt M L t)
 | 0, i, hi => by
  refine ⟨true, Ev.succ (h := fun _ => some true) (fun k => ?_) (Ev.const _), ?_⟩
  ·
   simp only [interchangeref13_Right.l1]
   rw [if_neg (by omega)]
  ·
   simp only [true_iff]
   intro t h1 h2
   omega
 | r + 1, i, hi => by
  obtain ⟨b', hb', hb2⟩ := Right_l1 M L hL r (i + 1) (by omega)
  have hil : i < L.length := by omega
  rw [← w64 (n := i) (N := L.length) hil hL] at hb'
  have key : ∀ x : Bool, (x = false ↔ (0 ≤ (rd_T29 L i).f0 ∧ (rd_T29 L i).f0 < (M.length : Int) ∧ 1 ≤ (rd_T29 L i).f1 ∧ (rd_T29 L i).f1 ≤ rd M (rd_T29 L i).f0 ∧ 1 ≤ (rd_T29 L i).f2 ∧ (rd_T29 L i).f2 ≤ 3 ∧ 0 ≤ (rd_T29 L i).f3)) →
    (∀ k, interchangeref13_Right.l1 (k + 1) i M L = interchangeref13_Right.j2 k i x M L (rd_T29 L i).f0 (rd_T29 L i).f1 (rd_T29 L i).f2 (rd_T29 L i).f3) →
    ∃ v : Bool, Ev (fun k => interchangeref13_Right.l1 k i M L) v ∧ (v = true ↔ ∀ t : Nat, i ≤ t → t < L.length → okAt M L t) := by
   intro x hx hk
   obtain ⟨v, hv, hv2⟩ := Right_j2 M L hL i hil (rd_T29 L i).f0 (rd_T29 L i).f1 (rd_T29 L i).f2 (rd_T29 L i).f3 b' hb' x
   refine ⟨v, Ev.succ hk hv, ?_⟩
   rw [hv2, hx, hb2]
   constructor
   ·
    rintro ⟨⟨h0, h1, h2, h3, h4, h5, h6⟩, h7, h8, h9, h10⟩ t ht1 ht2
    by_cases e : t = i
    ·
     subst e; exact ⟨h0, h1, h2, h3, h4, h5, h6, h7, h8, h9⟩
    ·
     exact h10 t (by omega) ht2
   ·
    intro h
    obtain ⟨h0, h1, h2, h3, h4, h5, h6, h7, h8, h9⟩ := h i (Nat.le_refl _) hil
    exact ⟨⟨h0, h1, h2, h3, h4, h5, h6⟩, h7, h8, h9, fun t ht1 ht2 => h t (by omega) ht2⟩
  have hi0 : (i : Int) < (L.length : Int) := by omega
  have hi1 : (0 : Int) ≤ (i : Int) := by omega
  by_cases c0 : (rd_T29 L i).f0 < 0
  ·
   exact key true ⟨fun h => (by cases h), fun h => (by exfalso; omega)⟩ (fun k => by simp only [interchangeref13_Right.l1]; rw [if_pos hi0, if_pos hi1, if_pos c0])
  by_cases c1 : (rd_T29 L i).f0 ≥ (M.length : Int)
  ·
   exact key true ⟨fun h => (by cases h), fun h => (by exfalso; omega)⟩ (fun k => by simp only [interchangeref13_Right.l1]; rw [if_pos hi0, if_pos hi1, if_neg c0, if_pos c1])
  by_cases c2 : (rd_T29 L i).f1 < 1
  ·
   exact key true ⟨fun h => (by cases h), fun h => (by exfalso; omega)⟩ (fun k => by simp only [interchangeref13_Right.l1]; rw [if_pos hi0, if_pos hi1, if_neg c0, if_neg c1, if_pos c2])
  by_cases c3 : (rd_T29 L i).f1 > rd M (rd_T29 L i).f0
  ·
   exact key true ⟨fun h => (by cases h), fun h => (by exfalso; omega)⟩ (fun k => by simp only [interchangeref13_Right.l1]; rw [if_pos hi0, if_pos hi1, if_neg c0, if_neg c1, if_neg c2, if_pos (by omega), if_pos (by omega), if_pos c3])
  by_cases c4 : (rd_T29 L i).f2 < 1
  ·
   exact key true ⟨fun h => (by cases h), fun h => (by exfalso; omega)⟩ (fun k => by simp only [interchangeref13_Right.l1]; rw [if_pos hi0, if_pos hi1, if_neg c0, if_neg c1, if_neg c2, if_pos (by omega), if_pos (by omega), if_neg c3, if_pos c4])
  by_cases c5 : (rd_T29 L i).f2 > 3
  ·
   exact key true ⟨fun h => (by cases h), fun h => (by exfalso; omega)⟩ (fun k => by simp only [interchangeref13_Right.l1]; rw [if_pos hi0, if_pos hi1, if_neg c0, if_neg c1, if_neg c2, if_pos (by omega), if_pos (by omega), if_neg c3, if_neg c4, if_pos c5])
  ·
   exact key (decide ((rd_T29 L i).f3 < 0)) (by rw [decide_eq_false_iff_not]; constructor <;> intro h <;> omega) (fun k => by simp only [interchangeref13_Right.l1]; rw [if_pos hi0, if_pos hi1, if_neg c0, if_neg c1, if_neg c2, if_pos (by omega), if_pos (by omega), if_neg c3, if_neg c4, if_neg c5])

theorem Right_l0 (M : List Int) (L : List S29) (hM : M.length ≤ 64) (hL : L.length ≤ 4611686018427387904) : ∀ (r i : Nat), i + r = M.length → ∃ v : Bool, Ev (fun k => interchangeref13_Right.l0 k i M L) v ∧ (v = true ↔ (∀ t : Nat, i ≤ t → t < M.length → 0 ≤ rd M t ∧ rd M t ≤ 65535) ∧ ∀ t : Nat, t < L.length → okAt M L t)
 | 0, i, hi => by
  obtain ⟨v, hv, hv2⟩ := Right_l1 M L hL L.length 0 (by omega)
  refine ⟨v, Ev.succ (fun k => ?_) hv, ?_⟩
  ·
   simp only [interchangeref13_Right.l0]
   rw [if_neg (by omega)]
   rfl
  ·
   rw [hv2]
   constructor
   ·
    exact fun h => ⟨fun t h1 h2 => by omega, fun t ht => h t (by omega) ht⟩
   ·
    exact fun h t _ ht => h.2 t ht
 | r + 1, i, hi => by
  obtain ⟨v, hv, hv2⟩ := Right_l0 M L hM hL r (i + 1) (by omega)
  have hw := w64 (n := i) (N := M.length) (by omega) (by omega)
  have hi0 : (i : Int) < (M.length : Int) := by omega
  have hi1 : (0 : Int) ≤ (i : Int) := by omega
  by_cases c0 : rd M i < 0
  ·
   refine ⟨false, Ev.succ (h := fun _ => some false) (fun k => ?_) (Ev.const _), ?_⟩
   ·
    simp only [interchangeref13_Right.l0]
    rw [if_pos hi0, if_pos hi1, if_pos c0]
   ·
    constructor
    ·
     intro h; cases h
    ·
     intro h; have := h.1 i (Nat.le_refl _) (by omega); omega
  ·
   by_cases c1 : rd M i > 65535
   ·
    refine ⟨false, Ev.succ (h := fun _ => some false) (fun k => ?_) (Ev.const _), ?_⟩
    ·
     simp only [interchangeref13_Right.l0]
     rw [if_pos hi0, if_pos hi1, if_neg c0, if_pos c1]
    ·
     constructor
     ·
      intro h; cases h
     ·
      intro h; have := h.1 i (Nat.le_refl _) (by omega); omega
   ·
    refine ⟨v, Ev.succ (fun k => ?_) hv, ?_⟩
    ·
     simp only [interchangeref13_Right.l0]
     rw [if_pos hi0, if_pos hi1, if_neg c0, if_neg c1, hw]
    ·
     rw [hv2]
     constructor
     ·
      rintro ⟨h1, h2⟩
      refine ⟨fun t ht1 ht2 => ?_, h2⟩
      by_cases e : t = i
      ·
       subst e; omega
      ·
       exact h1 t (by omega) ht2
     ·
      rintro ⟨h1, h2⟩
      exact ⟨fun t ht1 ht2 => h1 t (by omega) ht2, h2⟩

theorem Right_ev (M : List Int) (L : List S29) (hL : L.length ≤ 4611686018427387904) : ∃ v : Bool, Ev (fun k => interchangeref13_Right.f k M L) v ∧ (v = true ↔ RightP M L) := by
 by_cases hM : M.length ≤ 64
 ·
  obtain ⟨v, hv, hv2⟩ := Right_l0 M L hM hL M.length 0 (by omega)
  refine ⟨v, Ev.congr (fun k => ?_) hv, ?_⟩
  ·
   unfold interchangeref13_Right.f
   rw [if_neg (by omega)]
   rfl
  ·
   rw [hv2]
   constructor
   ·
    exact fun h => ⟨hM, fun i hi => h.1 i (Nat.zero_le _) hi, h.2⟩
   ·
    exact fun h => ⟨fun t _ ht => h.2.1 t ht, h.2.2⟩
 ·
  refine ⟨false, Ev.pure (fun k => ?_), ?_⟩
  ·
   show interchangeref13_Right.f k M L = some false
   unfold interchangeref13_Right.f
   rw [if_pos (by omega)]
  ·
   constructor
   ·
    intro h; cases h
   ·
    intro h; exact absurd h.1 hM
theorem few_ev (M : List Int) (L : List S29) (hL : L.length ≤ 4611686018427387904) : ∃ v : Bool, Ev (fun k => interchangelaw13_few.f k M L) v ∧ (v = true → RightP M L ∧ L.length ≤ 200) := by
 obtain ⟨v, hv, hv2⟩ := Right_ev M L hL
 cases v with
 | false =>
  refine ⟨false, ?_, fun h => by cases h⟩
  exact Ev.bind hv (Ev.pure (fun k => by simp))
 | true =>
  refine ⟨decide ((L.length : Int) ≤ 200), ?_, fun h => ⟨hv2.1 rfl, by have := of_decide_eq_true h; omega⟩⟩
  exact Ev.bind hv (Ev.pure (fun k => by simp))

/-! How many. -/
theorem Same_l1 (M N : List Int) (L : List S29) (hL : L.length ≤ 4611686018427387904) : ∀ (r i : Nat), i + r = L.length → Ev (fun k => interchangeref13_Same.l1 k i M L N L) true
 | 0, i, hi => Ev.succ (h := fun _ => some true) (fun k => by simp only [interchangeref13_Same.l1]; rw [if_neg (by omega)]) (Ev.const _)
 | r + 1, i, hi => by
  refine Ev.succ (fun k => ?_) (Same_l1 M N L hL r (i + 1) (by omega))
  conv => lhs; unfold interchangeref13_Same.l1
  rw [if_pos (by omega), if_pos (by omega), if_pos (by omega), if_neg (by simp), w64 (n := i) (N := L.length) (by omega) hL]
theorem Same_l0 (M : List Int) (L : List S29) (hM : M.length ≤ 4611686018427387904) (hL : L.length ≤ 4611686018427387904) : ∀ (r i : Nat), i + r = M.length → Ev (fun k => interchangeref13_Same.l0 k i M L M L) true
 | 0, i, hi => by
  refine Ev.succ (fun k => ?_) (Same_l1 M M L hL L.length 0 (by omega))
  simp only [interchangeref13_Same.l0]
  rw [if_neg (by omega)]
  rfl
 | r + 1, i, hi => by
  refine Ev.succ (fun k => ?_) (Same_l0 M L hM hL r (i + 1) (by omega))
  conv => lhs; unfold interchangeref13_Same.l0
  rw [if_pos (by omega), if_pos (by omega), if_pos (by omega), if_pos rfl, w64 (n := i) (N := M.length) (by omega) hM]
theorem Same_ev (M : List Int) (L : List S29) (hM : M.length ≤ 4611686018427387904) (hL : L.length ≤ 4611686018427387904) : Ev (fun k => interchangeref13_Same.f k M L M L) true := by
 refine Ev.congr (h := fun k => interchangeref13_Same.j0 k false M L M L) (fun k => ?_) (Ev.succ (fun k => ?_) (Same_l0 M L hM hL M.length 0 (by omega)))
 ·
  unfold interchangeref13_Same.f
  rw [if_pos rfl]
  simp
 ·
  simp only [interchangeref13_Same.j0, Bool.false_eq_true, if_false]
  rfl
end Go.Proofs.Ytgiofigjnchfeaa.Q

namespace Go.Proofs.Ytgiofigjnchfeaa.Q
open Go.RowKit Go.Proofs.YtgiofigjnchfeaaW.PrintWords Go.Proofs.YtgiofigjnchfeaaW.PrintLast Go.Proofs.YtgiofigjnchfeaaW.PrintMore
set_option linter.unusedVariables false
set_option linter.unusedSimpArgs false

def slotOk (M : List Int) (s : S29) : Prop := 0 ≤ s.f0 ∧ s.f0 < (M.length : Int) ∧ 1 ≤ s.f1 ∧ s.f1 ≤ rd M s.f0 ∧ 1 ≤ s.f2 ∧ s.f2 ≤ 3 ∧ 0 ≤ s.f3 ∧ (s.f2 = 3 ↔ s.f3 = 0)
def ltS (a b : S29) : Prop := a.f0 < b.f0 ∨ (a.f0 = b.f0 ∧ a.f1 < b.f1)
def whoNe (a b : S29) : Prop := b.f3 = 0 ∨ a.f3 ≠ b.f3
structure RightL (M : List Int) (L : List S29) : Prop where
 len : M.length ≤ 64
 most : ∀ i : Nat, i < M.length → 0 ≤ rd M i ∧ rd M i ≤ 65535
 ok : ∀ s ∈ L, slotOk M s
 lt : L.Pairwise ltS
 who : L.Pairwise whoNe
theorem ltS_trans {a b c : S29} (h : ltS a b) (k : ltS b c) : ltS a c := by unfold ltS at *; omega
theorem ltS_irrefl (a : S29) : ¬ ltS a a := by unfold ltS; omega
theorem adj_lt {L : List S29} (h : ∀ i : Nat, (hi : i + 1 < L.length) → ltS (L[i]'(by omega)) L[i + 1]) : L.Pairwise ltS := by
 rw [List.pairwise_iff_getElem]
 have key : ∀ (d i : Nat) (h2 : i + d + 1 < L.length), ltS (L[i]'(by omega)) L[i + d + 1] := by
  intro d
  induction d with
  | zero => exact fun i h2 => h i h2
  | succ d ih => exact fun i h2 => ltS_trans (ih i (by omega)) (h (i + d + 1) h2)
 intro i j hi hj hij
 have := key (j - i - 1) i (by omega)
 simp only [show i + (j - i - 1) + 1 = j by omega] at this
 exact this
theorem RightL.of {M : List Int} {L : List S29} (h : RightP M L) : RightL M L := by
 obtain ⟨h1, h2, h3⟩ := h
 refine ⟨h1, h2, ?_, adj_lt ?_, ?_⟩
 ·
  intro s hs
  obtain ⟨i, hi, rfl⟩ := List.getElem_of_mem hs
  obtain ⟨a0, a1, a2, a3, a4, a5, a6, a7, -, -⟩ := h3 i hi
  rw [rd29_nat hi] at a0 a1 a2 a3 a4 a5 a6 a7
  exact ⟨a0, a1, a2, a3, a4, a5, a6, a7⟩
 ·
  intro i hi
  obtain ⟨-, -, -, -, -, -, -, -, a8, -⟩ := h3 (i + 1) hi
  have := a8 (by omega)
  rw [show (((i + 1 : Nat) : Int) - 1) = (i : Int) by omega, rd29_nat hi, rd29_nat (show i < L.length by omega)] at this
  unfold ltS
  omega
 ·
  rw [List.pairwise_iff_getElem]
  intro i j hi hj hij
  obtain ⟨-, -, -, -, -, -, -, -, -, a9⟩ := h3 j hj
  have := a9 i hij
  rw [rd29_nat hi, rd29_nat hj] at this
  exact this
theorem RightL.back {M : List Int} {L : List S29} (h : RightL M L) : RightP M L := by
 refine ⟨h.len, h.most, fun i hi => ?_⟩
 obtain ⟨a0, a1, a2, a3, a4, a5, a6, a7⟩ := h.ok L[i] (List.getElem_mem hi)
 have hlt := List.pairwise_iff_getElem.1 h.lt
 have hw := List.pairwise_iff_getElem.1 h.who
 unfold okAt
 rw [rd29_nat hi]
 refine ⟨a0, a1, a2, a3, a4, a5, a6, a7, fun h0 => ?_, fun t ht => ?_⟩
 ·
  have := hlt (i - 1) i (by omega) hi (by omega)
  rw [show ((i : Int) - 1) = ((i - 1 : Nat) : Int) by omega, rd29_nat (show i - 1 < L.length by omega)]
  unfold ltS at this
  omega
 ·
  have := hw t i (by omega) hi ht
  rw [rd29_nat (show t < L.length by omega)]
  exact this

/-! The best one. -/
theorem whoNe_symm {a b : S29} (h : whoNe a b) : whoNe b a := by unfold whoNe at *; omega
theorem key_inj {L : List S29} (h : L.Pairwise ltS) {x y : S29} (hx : x ∈ L) (hy : y ∈ L) (e0 : x.f0 = y.f0) (e1 : x.f1 = y.f1) : x = y := by
 obtain ⟨i, hi, rfl⟩ := List.getElem_of_mem hx
 obtain ⟨j, hj, rfl⟩ := List.getElem_of_mem hy
 have hl := List.pairwise_iff_getElem.1 h
 rcases Nat.lt_trichotomy i j with hij | hij | hij
 ·
  have := hl i j hi hj hij; unfold ltS at this; omega
 ·
  subst hij; rfl
 ·
  have := hl j i hj hi hij; unfold ltS at this; omega
theorem who_inj {L : List S29} (h : L.Pairwise whoNe) {x y : S29} (hx : x ∈ L) (hy : y ∈ L) (e : x.f3 = y.f3) (e0 : x.f3 ≠ 0) : x = y := by
 obtain ⟨i, hi, rfl⟩ := List.getElem_of_mem hx
 obtain ⟨j, hj, rfl⟩ := List.getElem_of_mem hy
 have hl := List.pairwise_iff_getElem.1 h
 rcases Nat.lt_trichotomy i j with hij | hij | hij
 ·
  have := hl i j hi hj hij; unfold whoNe at this; omega
 ·
  subst hij; rfl
 ·
  have := hl j i hj hi hij; unfold whoNe at this; omega
theorem find_unique {L : List S29} {p : S29 → Bool} {x : S29} (hx : x ∈ L) (hp : p x = true) (hu : ∀ y ∈ L, p y = true → y = x) : L.find? p = some x := by
 cases hf : L.find? p with
 | none => exact absurd hp (by simpa using List.find?_eq_none.1 hf x hx)
 | some y => rw [hu y (List.mem_of_find?_eq_some hf) (List.find?_some hf)]
theorem atP_iff (c ch : Int) (s : S29) : atP c ch s = true ↔ s.f0 = c ∧ s.f1 = ch := by simp [atP]
theorem ofP_iff (who : Int) (s : S29) : ofP who s = true ↔ s.f3 = who ∧ 0 < who := by simp [ofP]
theorem find_at {L : List S29} (h : L.Pairwise ltS) {x : S29} (hx : x ∈ L) : L.find? (atP x.f0 x.f1) = some x :=
 find_unique hx ((atP_iff _ _ _).2 ⟨rfl, rfl⟩) (fun y hy hp => key_inj h hy hx ((atP_iff _ _ _).1 hp).1 ((atP_iff _ _ _).1 hp).2)
theorem find_at_none {L : List S29} {c ch : Int} (h : ∀ s ∈ L, s.f0 = c → s.f1 ≠ ch) : L.find? (atP c ch) = none := by
 rw [List.find?_eq_none]
 intro s hs hp
 exact h s hs ((atP_iff _ _ _).1 hp).1 ((atP_iff _ _ _).1 hp).2
theorem find_of {L : List S29} (h : L.Pairwise whoNe) {x : S29} (hx : x ∈ L) (h0 : 0 < x.f3) : L.find? (ofP x.f3) = some x :=
 find_unique hx ((ofP_iff _ _).2 ⟨rfl, h0⟩) (fun y hy hp => who_inj h hy hx ((ofP_iff _ _).1 hp).1 (by have := ((ofP_iff _ _).1 hp).1; omega))
theorem of_none {L : List S29} {who : Int} (h : L.find? (ofP who) = none) (hw : ¬ who < 1) : ∀ s ∈ L, s.f3 ≠ who := by
 intro s hs e
 exact List.find?_eq_none.1 h s hs ((ofP_iff _ _).2 ⟨e, by omega⟩)

/-! What is right stays right. -/
theorem RightL.sub {M : List Int} {L L' : List S29} (h : RightL M L) (hs : L'.Sublist L) : RightL M L' :=
 ⟨h.len, h.most, fun s hs' => h.ok s (hs.subset hs'), h.lt.sublist hs, h.who.sublist hs⟩

theorem setL_map (p ok : S29 → Bool) (upd : S29 → S29) : ∀ (L L' : List S29), setL p ok upd L = some L' → (∀ x ∈ L, ∀ y ∈ L, p x = true → p y = true → x = y) → L.Nodup → L' = L.map (fun x => if p x = true then upd x else x) ∧ ∃ x ∈ L, p x = true ∧ ok x = true
 | [], L', h, _, _ => by simp [setL] at h
 | x :: r, L', h, hu, hn => by
  cases hp : p x with
  | true =>
   simp only [setL, hp, if_true] at h
   by_cases ho : ok x = true
   ·
    rw [if_pos ho] at h
    obtain rfl := Option.some.inj h
    refine ⟨?_, x, List.mem_cons_self, hp, ho⟩
    rw [List.map_cons, if_pos hp]
    congr 1
    have : ∀ y ∈ r, p y = false := by
     intro y hy
     cases hpy : p y with
     | false => rfl
     | true =>
      have e := hu x List.mem_cons_self y (List.mem_cons_of_mem _ hy) hp hpy
      subst e
      exact absurd hy (List.nodup_cons.1 hn).1
    rw [List.map_congr_left (g := id) (fun y hy => by rw [this y hy]; rfl)]
    simp
   ·
    rw [if_neg ho] at h; cases h
  | false =>
   simp only [setL, hp, Bool.false_eq_true, if_false] at h
   obtain ⟨L1, h1, rfl⟩ := Option.map_eq_some_iff.1 h
   obtain ⟨e, z, hz, h2⟩ := setL_map p ok upd r L1 h1 (fun a ha b hb => hu a (List.mem_cons_of_mem _ ha) b (List.mem_cons_of_mem _ hb)) (List.nodup_cons.1 hn).2
   refine ⟨?_, z, List.mem_cons_of_mem _ hz, h2⟩
   rw [List.map_cons, hp, e]
   rfl
theorem setL_no (p ok : S29 → Bool) (upd : S29 → S29) : ∀ (L : List S29), setL p ok upd L = none → ∀ x, L.find? p = some x → ok x = false
 | [], _, x, h => by simp at h
 | y :: r, h, x, hf => by
  cases hp : p y with
  | true =>
   simp only [setL, hp, if_true] at h
   have e : y = x := by simpa [hp] using hf
   subst e
   cases ho : ok y with
   | false => rfl
   | true => rw [if_pos ho] at h; cases h
  | false =>
   simp only [setL, hp, Bool.false_eq_true, if_false] at h
   exact setL_no p ok upd r (by simpa using h) x (by simpa [hp] using hf)
theorem sorted_nodup {L : List S29} (h : L.Pairwise ltS) : L.Nodup := h.imp (fun {a b} hab e => by subst e; exact ltS_irrefl a hab)
theorem at_unique {L : List S29} (h : L.Pairwise ltS) (c ch : Int) : ∀ x ∈ L, ∀ y ∈ L, atP c ch x = true → atP c ch y = true → x = y := by
 intro x hx y hy h1 h2
 have a := (atP_iff _ _ _).1 h1
 have b := (atP_iff _ _ _).1 h2
 exact key_inj h hx hy (by omega) (by omega)
/-- One is changed, its place is not. -/
theorem RightL.upd {M : List Int} {L : List S29} (h : RightL M L) (p : S29 → Bool) (upd : S29 → S29) (h0 : ∀ x, (upd x).f0 = x.f0) (h1 : ∀ x, (upd x).f1 = x.f1) (hok : ∀ x ∈ L, p x = true → slotOk M (upd x)) (hw : ∀ x, (upd x).f3 = x.f3 ∨ (upd x).f3 = 0) : RightL M (L.map (fun x => if p x = true then upd x else x)) := by
 refine ⟨h.len, h.most, fun s hs => ?_, ?_, ?_⟩
 ·
  obtain ⟨x, hx, rfl⟩ := List.mem_map.1 hs
  by_cases hp : p x = true
  ·
   simp only [if_pos hp]; exact hok x hx hp
  ·
   simp only [if_neg hp]; exact h.ok x hx
 ·
  rw [List.pairwise_map]
  refine h.lt.imp (fun {a b} hab => ?_)
  have e : ∀ x : S29, (if p x = true then upd x else x).f0 = x.f0 ∧ (if p x = true then upd x else x).f1 = x.f1 := by
   intro x
   split
   ·
    exact ⟨h0 x, h1 x⟩
   ·
    exact ⟨rfl, rfl⟩
  unfold ltS at *
  rw [(e a).1, (e a).2, (e b).1, (e b).2]
  exact hab
 ·
  rw [List.pairwise_map]
  refine h.who.imp (fun {a b} hab => ?_)
  have e : ∀ x : S29, (if p x = true then upd x else x).f3 = x.f3 ∨ (if p x = true then upd x else x).f3 = 0 := by
   intro x
   split
   ·
    exact hw x
   ·
    exact .inl rfl
  have ea := e a
  have eb := e b
  unfold whoNe at *
  omega
end Go.Proofs.Ytgiofigjnchfeaa.Q

namespace Go.Proofs.Ytgiofigjnchfeaa.Q
open Go.RowKit Go.Proofs.YtgiofigjnchfeaaW.PrintWords Go.Proofs.YtgiofigjnchfeaaW.PrintLast Go.Proofs.YtgiofigjnchfeaaW.PrintMore
set_option linter.unusedVariables false
set_option linter.unusedSimpArgs false

theorem shown_ev : Ev (fun k => interchangelaw13_shown.f k) true := Ev.succ (h := fun _ => some true) interchangelaw13_shown_succ (Ev.const _)
theorem At_mem {M : List Int} {L : List S29} (h : L.Pairwise ltS) {x : S29} (hx : x ∈ L) : pool_At.f M L x.f0 x.f1 = some (x.f0, x.f1, x.f2, x.f3, true) := by
 unfold pool_At.f; rw [find_at h hx]
theorem At_none {M : List Int} {L : List S29} {c ch : Int} (h : ∀ s ∈ L, s.f0 = c → s.f1 ≠ ch) : pool_At.f M L c ch = some (0, 0, 0, 0, false) := by
 unfold pool_At.f; rw [find_at_none h]


theorem setL_none_of (p ok : S29 → Bool) (upd : S29 → S29) : ∀ (L : List S29) (x : S29), L.find? p = some x → ok x = false → setL p ok upd L = none
 | [], x, h, _ => by simp at h
 | y :: r, x, h, ho => by
  cases hp : p y with
  | true =>
   have e : y = x := by simpa [hp] using h
   subst e
   simp [setL, hp, ho]
  | false =>
   simp only [setL, hp, Bool.false_eq_true, if_false]
   rw [setL_none_of p ok upd r x (by simpa [hp] using h) ho]
   rfl
def relOk (x : S29) : Bool := ([1, 2] : List Int).any fun y => x.f2 == y
theorem Release_eq (M : List Int) (L : List S29) (c ch : Int) (hL : L.length ≤ 4398046511000) : pool_Release.f M L c ch = some (setF (atP c ch) relOk relS M L) := by
 unfold pool_Release.f
 rw [if_pos hL]
 rfl
theorem Release_again {M : List Int} {L : List S29} (h : RightL M L) (hL : L.length ≤ 4398046511000) {x : S29} (hx : x ∈ L) (h3 : x.f2 = 3) : pool_Release.f M L x.f0 x.f1 = some (M, L, 11) := by
 rw [Release_eq M L _ _ hL]
 unfold setF
 rw [setL_none_of _ relOk relS L x (find_at h.lt hx) (by simp [relOk, h3])]
theorem filter_one {L : List S29} (h : L.Pairwise ltS) {x : S29} (hx : x ∈ L) (p : S29 → Bool) (hp : p x = true) (hu : ∀ y ∈ L, p y = true → y = x) : (L.filter p).length = 1 := by
 have hs : (L.filter p).Pairwise ltS := h.sublist List.filter_sublist
 have hm : x ∈ L.filter p := List.mem_filter.2 ⟨hx, hp⟩
 have ha : ∀ y ∈ L.filter p, y = x := fun y hy => hu y (List.mem_filter.1 hy).1 (List.mem_filter.1 hy).2
 generalize L.filter p = F at hs hm ha
 match F, hs, hm, ha with
 | [], _, hm, _ => cases hm
 | [_], _, _, _ => rfl
 | a :: b :: r, hs, _, ha =>
  have e1 := ha a List.mem_cons_self
  have e2 := ha b (List.mem_cons_of_mem _ List.mem_cons_self)
  have := (List.pairwise_cons.1 hs).1 b List.mem_cons_self
  rw [e1, e2] at this
  exact absurd this (ltS_irrefl x)
theorem len_filter {α : Type} (p : α → Bool) : ∀ l : List α, l.length = (l.filter p).length + (l.filter fun x => !p x).length
 | [] => rfl
 | x :: r => by
  have := len_filter p r
  cases h : p x <;> simp [h] <;> omega
end Go.Proofs.Ytgiofigjnchfeaa.Q
