/- Plain laws of chapter 17: names that are found, made up, added and dropped. -/
import Derived.Test.YtobdcmgdodahgaaDoorL17
namespace Go.Proofs.YtobdcmgdodahgaaDoor.Q
open Go.RowKit Go.Proofs.YtobdcmgdodahgaaDoorW.PrintWords Go.Proofs.YtobdcmgdodahgaaDoorW.PrintLast Go.Proofs.YtobdcmgdodahgaaDoorW.PrintMore
set_option linter.unusedVariables false
set_option linter.unusedSimpArgs false

/-! What is right, as a row. -/
def RL (who : Int) (l : List S31) : Prop := 1 ≤ who ∧ (∀ x ∈ l, upR who x.f0 = (x.f1, 0)) ∧ l.Pairwise fun x y => x.f0 ≠ y.f0
theorem RL_iff (who : Int) (l : List S31) : RightP who l ↔ RL who l := by
  constructor
  · intro h
    refine ⟨h.1, ?_, ?_⟩
    · intro x hx
      obtain ⟨i, hi, rfl⟩ := List.mem_iff_getElem.1 hx
      have := (h.2 i hi).1
      rw [rd31_nat hi] at this
      exact this
    · rw [List.pairwise_iff_getElem]
      intro i j hi hj hij
      have := (h.2 j hj).2 i hij
      rw [rd31_nat hi, rd31_nat hj] at this
      exact this
  · intro h
    refine ⟨h.1, fun i hi => ⟨?_, fun t ht => ?_⟩⟩
    · rw [rd31_nat hi]
      exact h.2.1 _ (List.getElem_mem hi)
    · have htl : t < l.length := by omega
      rw [rd31_nat hi, rd31_nat htl]
      exact List.pairwise_iff_getElem.1 h.2.2 t i htl hi ht

theorem mineP_iff {m : ByteArray} {x : S31} : mineP m x = true ↔ x.f0 = m := by
  unfold mineP; rw [beq_iff_eq, tl_inj]
theorem upP_iff {m : ByteArray} {x : S31} : upP m x = true ↔ x.f1 = m := by
  unfold upP; rw [beq_iff_eq, tl_inj]
theorem upR_ok {who : Int} {a u : ByteArray} (h : upR who a = (u, 0)) : u = upS who a ∧ a.toList ≠ [] ∧ (upS who a).size < 256 ∧ 1 ≤ who := by
  unfold upR at h
  by_cases h1 : who < 1 ∨ a.toList = []
  · rw [if_pos h1] at h; simp at h
  · rw [if_neg h1] at h
    by_cases h2 : 256 ≤ (upS who a).size
    · rw [if_pos h2] at h; simp at h
    · rw [if_neg h2] at h
      simp only [Prod.mk.injEq] at h
      exact ⟨h.1.symm, fun e => h1 (.inr e), by omega, by have : ¬ who < 1 := fun e => h1 (.inl e); omega⟩
theorem upR_mk {who : Int} {a : ByteArray} (h1 : 1 ≤ who) (h2 : a.toList ≠ []) (h3 : (upS who a).size < 256) : upR who a = (upS who a, 0) := by
  unfold upR
  rw [if_neg (by intro h; rcases h with h | h; omega; exact h2 h), if_neg (by omega)]
theorem upS_list (who : Int) (s : ByteArray) : (upS who s).toList = Lib.decDigits who.toNat ++ 47 :: s.toList := by
  unfold upS
  rw [tl_app, tl_app, tl_mk]
  have : (⟨#[47]⟩ : ByteArray).toList = [47] := tl_mk [47]
  rw [this, List.append_assoc]
  rfl
theorem upS_inj {who : Int} {a b : ByteArray} (h : upS who a = upS who b) : a = b := by
  rw [← tl_inj, upS_list, upS_list] at h
  have := List.append_cancel_left h
  simp only [List.cons.injEq, true_and] at this
  exact tl_inj.1 this

theorem findR_some {p : S31 → Bool} {l : List S31} {x : S31} (hx : x ∈ l) (hp : p x = true) (hu : ∀ y ∈ l, p y = true → y = x) : findR p l = (x, true) := by
  unfold findR
  cases h : l.find? p with
  | none => exact absurd hp (by simpa using List.find?_eq_none.1 h x hx)
  | some y => simp only [hu y (List.mem_of_find?_eq_some h) (List.find?_some h)]
theorem findR_none {p : S31 → Bool} {l : List S31} (hp : ∀ y ∈ l, p y = false) : findR p l = (z31, false) := by
  unfold findR
  rw [List.find?_eq_none.2 (fun x hx => by rw [hp x hx]; decide)]
theorem findR_cases (p : S31 → Bool) (l : List S31) : (∃ x ∈ l, p x = true ∧ findR p l = (x, true)) ∨ ((∀ y ∈ l, p y = false) ∧ findR p l = (z31, false)) := by
  unfold findR
  cases h : l.find? p with
  | none => exact .inr ⟨fun y hy => by simpa using List.find?_eq_none.1 h y hy, rfl⟩
  | some y => exact .inl ⟨y, List.mem_of_find?_eq_some h, List.find?_some h, rfl⟩
theorem RL.same {who : Int} {l : List S31} (h : RL who l) {x y : S31} (hx : x ∈ l) (hy : y ∈ l) (e : x.f0 = y.f0) : x = y := by
  obtain ⟨i, hi, rfl⟩ := List.mem_iff_getElem.1 hx
  obtain ⟨j, hj, rfl⟩ := List.mem_iff_getElem.1 hy
  have hp := List.pairwise_iff_getElem.1 h.2.2
  rcases Nat.lt_trichotomy i j with h1 | h1 | h1
  · exact absurd e (hp i j hi hj h1)
  · subst h1; rfl
  · exact absurd e.symm (hp j i hj hi h1)
theorem RL.sameUp {who : Int} {l : List S31} (h : RL who l) {x y : S31} (hx : x ∈ l) (hy : y ∈ l) (e : x.f1 = y.f1) : x = y := by
  refine h.same hx hy (upS_inj (who := who) ?_)
  rw [← (upR_ok (h.2.1 x hx)).1, ← (upR_ok (h.2.1 y hy)).1]
  exact e
theorem RL.mine {who : Int} {l : List S31} (h : RL who l) {x : S31} (hx : x ∈ l) : findR (mineP x.f0) l = (x, true) :=
  findR_some hx (mineP_iff.2 rfl) fun y hy hp => h.same hy hx (mineP_iff.1 hp)
theorem RL.up {who : Int} {l : List S31} (h : RL who l) {x : S31} (hx : x ∈ l) : findR (upP x.f1) l = (x, true) :=
  findR_some hx (upP_iff.2 rfl) fun y hy hp => h.sameUp hy hx (upP_iff.1 hp)
theorem findR_mineP (m : ByteArray) (l : List S31) : (findR (mineP m) l).2 = false ↔ ∀ x ∈ l, x.f0 ≠ m := by
  rcases findR_cases (mineP m) l with ⟨x, hx, hp, hf⟩ | ⟨hn, hf⟩
  · rw [hf]
    exact ⟨fun h => (by cases h), fun h => absurd (mineP_iff.1 hp) (h x hx)⟩
  · rw [hf]
    exact ⟨fun _ x hx e => (by have := hn x hx; rw [mineP_iff.2 e] at this; cases this), fun _ => rfl⟩

/-! Figures tell their number. -/
def decVal (l : List UInt8) : Nat := l.foldl (fun a d => a * 10 + (d.toNat - 48)) 0
theorem decVal_dec (n : Nat) : decVal (Lib.decDigits n) = n := by
  induction n using Nat.strongRecOn with
  | _ n ih =>
    rw [Lib.decDigits]
    by_cases h : n < 10
    · rw [dif_pos h]
      unfold decVal
      simp only [List.foldl_cons, List.foldl_nil, UInt8.toNat_ofNat']
      omega
    · rw [dif_neg h]
      have e := ih (n / 10) (by omega)
      unfold decVal at e ⊢
      rw [List.foldl_append, e]
      simp only [List.foldl_cons, List.foldl_nil, UInt8.toNat_ofNat']
      omega
theorem dec_inj {a b : Nat} (h : Lib.decDigits a = Lib.decDigits b) : a = b := by
  rw [← decVal_dec a, ← decVal_dec b, h]
theorem dec_noslash (n : Nat) : ∀ d ∈ Lib.decDigits n, d ≠ 47 := by
  induction n using Nat.strongRecOn with
  | _ n ih =>
    intro d hd
    have key : ∀ c : Nat, c < 10 → UInt8.ofNat (48 + c) ≠ 47 := by
      intro c hc e
      have := congrArg UInt8.toNat e
      rw [UInt8.toNat_ofNat'] at this
      have h47 : (47 : UInt8).toNat = 47 := rfl
      omega
    rw [Lib.decDigits] at hd
    by_cases h : n < 10
    · rw [dif_pos h] at hd
      rw [List.mem_singleton.1 hd]
      exact key n h
    · rw [dif_neg h] at hd
      rcases List.mem_append.1 hd with hd | hd
      · exact ih (n / 10) (by omega) d hd
      · rw [List.mem_singleton.1 hd]
        exact key _ (by omega)
theorem slash_split : ∀ {A B s t : List UInt8}, (∀ d ∈ A, d ≠ 47) → (∀ d ∈ B, d ≠ 47) → A ++ 47 :: s = B ++ 47 :: t → A = B ∧ s = t
  | [], [], s, t, _, _, h => by simpa using h
  | [], b :: B, s, t, _, hB, h => by
    simp only [List.nil_append, List.cons_append, List.cons.injEq] at h
    exact absurd h.1.symm (hB b (by simp))
  | a :: A, [], s, t, hA, _, h => by
    simp only [List.nil_append, List.cons_append, List.cons.injEq] at h
    exact absurd h.1 (hA a (by simp))
  | a :: A, b :: B, s, t, hA, hB, h => by
    simp only [List.cons_append, List.cons.injEq] at h
    obtain ⟨h1, h2⟩ := slash_split (fun d hd => hA d (by simp [hd])) (fun d hd => hB d (by simp [hd])) h.2
    exact ⟨by rw [h.1, h1], h2⟩
theorem upS_apart {a b : Int} {s t : ByteArray} (ha : 0 ≤ a) (hb : 0 ≤ b) : upS a s = upS b t ↔ a = b ∧ s = t := by
  constructor
  · intro h
    rw [← tl_inj, upS_list, upS_list] at h
    obtain ⟨h1, h2⟩ := slash_split (dec_noslash _) (dec_noslash _) h
    have := dec_inj h1
    exact ⟨by omega, tl_inj.1 h2⟩
  · rintro ⟨rfl, rfl⟩; rfl

/-! Names that are made up. -/
theorem mk_list (m : Int) : (mkName m).toList = [97, 109, 113, 46, 99] ++ Lib.decDigits m.toNat := by
  unfold mkName
  rw [tl_app]
  exact congr (congrArg HAppend.hAppend (tl_mk [97, 109, 113, 46, 99])) (tl_mk _)
theorem mk_inj {a b : Int} (ha : 0 ≤ a) (hb : 0 ≤ b) (h : mkName a = mkName b) : a = b := by
  rw [← tl_inj, mk_list, mk_list] at h
  have := dec_inj (List.append_cancel_left h)
  omega
theorem mk_size (m : Int) (h : m < 18446744073709551616) : (mkName m).size ≤ 25 := by
  rw [← tl_len, mk_list, List.length_append]
  have := dec_len_le m.toNat (by omega)
  simp only [List.length_cons, List.length_nil]
  omega
theorem mk_ne (m : Int) : (mkName m).toList ≠ [] := by rw [mk_list]; simp
/-- As many that are apart, all of one row: the row is as long. -/
theorem pigeon : ∀ (k : Nat) (S : List ByteArray) (g : Nat → ByteArray), (∀ i j, i < k → j < k → g i = g j → i = j) → (∀ i, i < k → g i ∈ S) → k ≤ S.length
  | 0, _, _, _, _ => Nat.zero_le _
  | k + 1, S, g, hi, hm => by
    have h1 : (S.filter fun x => decide (x ≠ g k)).length < S.length := by
      rcases Nat.lt_or_ge (S.filter fun x => decide (x ≠ g k)).length S.length with h | h
      · exact h
      · have h2 := List.length_filter_le (fun x => decide (x ≠ g k)) S
        have h3 := List.length_filter_eq_length_iff.1 (Nat.le_antisymm h2 h) (g k) (hm k (by omega))
        simp at h3
    have h2 := pigeon k (S.filter fun x => decide (x ≠ g k)) g (fun i j h1 h2 h3 => hi i j (by omega) (by omega) h3) (fun i h => by
      rw [List.mem_filter]
      refine ⟨hm i (by omega), ?_⟩
      simp only [ne_eq, decide_eq_true_eq]
      intro e
      have := hi i k (by omega) (by omega) e
      omega)
    omega
def stepM (made : Int) (i : Nat) : Int := (made + i) % 18446744073709551616
theorem mkLoop_none (l : List S31) : ∀ (k : Nat) (made : Int), 0 ≤ made → made < 18446744073709551616 → (∃ m, 0 ≤ m ∧ m < 18446744073709551616 ∧ (findR (mineP (mkName m)) l).2 = false ∧ mkLoop l k made = some (mkName m, IntKind.u64.wrap (m + 1))) ∨ ∀ i, i < k → (findR (mineP (mkName (stepM made i))) l).2 = true
  | 0, made, _, _ => .inr fun i h => by omega
  | k + 1, made, h0, h1 => by
    have e0 : stepM made 0 = made := by unfold stepM; omega
    cases hf : (findR (mineP (mkName made)) l).2 with
    | false =>
      refine .inl ⟨made, h0, h1, hf, ?_⟩
      simp only [mkLoop]
      rw [if_pos ⟨h0, h1⟩, hf, if_neg (by decide)]
    | true =>
      have hw : IntKind.u64.wrap (made + 1) = (made + 1) % 18446744073709551616 := u64_wrap _
      rcases mkLoop_none l k ((made + 1) % 18446744073709551616) (by omega) (by omega) with ⟨m, hm0, hm1, hm2, hm3⟩ | hall
      · refine .inl ⟨m, hm0, hm1, hm2, ?_⟩
        simp only [mkLoop]
        rw [if_pos ⟨h0, h1⟩, hf, if_pos rfl, hw]
        exact hm3
      · refine .inr fun i hi => ?_
        cases i with
        | zero => rw [e0]; exact hf
        | succ i =>
          have := hall i (by omega)
          have e : stepM ((made + 1) % 18446744073709551616) i = stepM made (i + 1) := by unfold stepM; push_cast; omega
          rw [e] at this
          exact this
theorem mkLoop_some (l : List S31) (hl : l.length ≤ 3518437208880) (made : Int) (h0 : 0 ≤ made) (h1 : made < 18446744073709551616) :
    ∃ m, 0 ≤ m ∧ m < 18446744073709551616 ∧ (findR (mineP (mkName m)) l).2 = false ∧ mkLoop l (l.length + 1) made = some (mkName m, IntKind.u64.wrap (m + 1)) := by
  rcases mkLoop_none l (l.length + 1) made h0 h1 with h | h
  · exact h
  · exfalso
    have := pigeon (l.length + 1) (l.map (·.f0)) (fun i => mkName (stepM made i)) (fun i j hi hj e => by
      have := mk_inj (by unfold stepM; omega) (by unfold stepM; omega) e
      unfold stepM at this
      omega) (fun i hi => by
      rcases findR_cases (mineP (mkName (stepM made i))) l with ⟨x, hx, hp, _⟩ | ⟨_, hf⟩
      · exact List.mem_map.2 ⟨x, hx, mineP_iff.1 hp⟩
      · have := h i hi; rw [hf] at this; cases this)
    rw [List.length_map] at this
    omega

/-! What is added. -/
theorem add_cases (who made : Int) (l : List S31) (mine : ByteArray) (free : Bool) (most : Int) (hwho : who ≤ 9223372036854775807) (hr : RL who l) (h0 : 0 ≤ made) (h1 : made < 18446744073709551616) (hl : l.length ≤ 3518437208880) (hm : mine.size ≤ 140737488351232) :
    (most ≤ (l.length : Int) ∧ names_Add.f who made l mine free most = some (who, made, l, ⟨#[]⟩, ⟨#[]⟩, false, 12)) ∨
    ((l.length : Int) < most ∧ mine.toList ≠ [] ∧ (∃ x ∈ l, x.f0 = mine) ∧ names_Add.f who made l mine free most = some (who, made, l, ⟨#[]⟩, ⟨#[]⟩, false, 14)) ∨
    ((l.length : Int) < most ∧ mine.toList ≠ [] ∧ (∀ x ∈ l, x.f0 ≠ mine) ∧ 256 ≤ (upS who mine).size ∧ names_Add.f who made l mine free most = some (who, made, l, ⟨#[]⟩, ⟨#[]⟩, false, 4)) ∨
    ((l.length : Int) < most ∧ ∃ m made', (mine.toList ≠ [] → m = mine) ∧ m.toList ≠ [] ∧ m.size ≤ 140737488351232 ∧ 0 ≤ made' ∧ made' < 18446744073709551616 ∧ (∀ x ∈ l, x.f0 ≠ m) ∧ (upS who m).size < 256 ∧
      names_Add.f who made l mine free most = some (who, made', l ++ [⟨m, upS who m, free⟩], m, upS who m, free, 0)) := by
  have tail : ∀ m made', m.toList ≠ [] → m.size ≤ 140737488351232 → addTail who made l free m made' = if 256 ≤ (upS who m).size then some (who, made, l, ⟨#[]⟩, ⟨#[]⟩, false, 4) else some (who, made', l ++ [⟨m, upS who m, free⟩], m, upS who m, free, 0) := by
    intro m made' hm1 hm2
    unfold addTail
    rw [up_val who m hwho hm2]
    unfold upR
    rw [if_neg (by intro h; rcases h with h | h; have := hr.1; omega; exact hm1 h)]
    by_cases hb : 256 ≤ (upS who m).size
    · rw [if_pos hb, if_pos hb]; rfl
    · rw [if_neg hb, if_neg hb, Option.bind_some, if_pos rfl, if_neg (by rw [upS_list]; simp), if_pos hl]
  unfold names_Add.f
  by_cases c1 : most ≤ (l.length : Int)
  · exact .inl ⟨c1, if_pos c1⟩
  · rw [if_neg c1]
    by_cases c2 : mine.toList = []
    · rw [if_pos c2]
      obtain ⟨m, hm0, hm1, hm2, hm3⟩ := mkLoop_some l hl made h0 h1
      have hsz := mk_size m hm1
      have hd : (Lib.decDigits who.toNat).length ≤ 20 := dec_len_le _ (by omega)
      have hus : (upS who (mkName m)).size < 256 := by rw [upS_size]; omega
      refine .inr (.inr (.inr ⟨by omega, mkName m, IntKind.u64.wrap (m + 1), fun h => absurd c2 h, mk_ne m, by omega, by rw [u64_wrap]; omega, by rw [u64_wrap]; omega, (findR_mineP _ _).1 hm2, hus, ?_⟩))
      rw [hm3, Option.bind_some, tail _ _ (mk_ne m) (by omega), if_neg (by omega)]
    · rw [if_neg c2]
      rcases findR_cases (mineP mine) l with ⟨x, hx, hp, hf⟩ | ⟨hn, hf⟩
      · exact .inr (.inl ⟨by omega, c2, ⟨x, hx, mineP_iff.1 hp⟩, by rw [hf, if_pos rfl]⟩)
      · have hn' : ∀ x ∈ l, x.f0 ≠ mine := (findR_mineP _ _).1 (by rw [hf])
        rw [hf, if_neg (by decide), tail mine made c2 hm]
        by_cases hb : 256 ≤ (upS who mine).size
        · exact .inr (.inr (.inl ⟨by omega, c2, hn', hb, if_pos hb⟩))
        · exact .inr (.inr (.inr ⟨by omega, mine, made, fun _ => rfl, c2, hm, h0, h1, hn', by omega, if_neg hb⟩))
theorem RL.add {who : Int} {l : List S31} (h : RL who l) {m : ByteArray} {free : Bool} (h1 : m.toList ≠ []) (h2 : ∀ x ∈ l, x.f0 ≠ m) (h3 : (upS who m).size < 256) : RL who (l ++ [⟨m, upS who m, free⟩]) := by
  refine ⟨h.1, ?_, ?_⟩
  · intro x hx
    rcases List.mem_append.1 hx with hx | hx
    · exact h.2.1 x hx
    · rw [List.mem_singleton.1 hx]
      exact upR_mk h.1 h1 h3
  · rw [List.pairwise_append]
    refine ⟨h.2.2, List.pairwise_singleton _ _, ?_⟩
    intro x hx y hy
    rw [List.mem_singleton.1 hy]
    exact h2 x hx
theorem RL.drop {who : Int} {l : List S31} (h : RL who l) (m : ByteArray) : RL who (dropL m l) := by
  unfold dropL
  exact ⟨h.1, fun x hx => h.2.1 x (List.mem_filter.1 hx).1, h.2.2.filter _⟩
theorem mem_drop {m : ByteArray} {l : List S31} {x : S31} : x ∈ dropL m l ↔ x ∈ l ∧ x.f0 ≠ m := by
  unfold dropL
  rw [List.mem_filter]
  constructor
  · rintro ⟨h1, h2⟩
    refine ⟨h1, fun e => ?_⟩
    rw [mineP_iff.2 e] at h2; cases h2
  · rintro ⟨h1, h2⟩
    refine ⟨h1, ?_⟩
    cases hq : mineP m x with
    | true => exact absurd (mineP_iff.1 hq) h2
    | false => rfl
theorem drop_len (m : ByteArray) (l : List S31) : (dropL m l).length ≤ l.length := List.length_filter_le _ _
end Go.Proofs.YtobdcmgdodahgaaDoor.Q
