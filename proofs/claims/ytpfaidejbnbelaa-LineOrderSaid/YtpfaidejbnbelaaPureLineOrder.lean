/- LineOrder's plain law: who is added one behind the other is served in that order, each once, however many at a time. -/
import Derived.Test.YtpfaidejbnbelaaQ7
import Derived.Test.YtpfaidejbnbelaaL13
namespace Go.Proofs.Ytpfaidejbnbelaa.Pure
open Go.RowKit Go.Proofs.Ytpfaidejbnbelaa.Q Go.Proofs.YtpfaidejbnbelaaW.PrintWords Go.Proofs.YtpfaidejbnbelaaW.PrintLast Go.Proofs.YtpfaidejbnbelaaW.PrintMore
set_option linter.unusedVariables false
set_option linter.unusedSimpArgs false

theorem order_done (want : List Int) (hw : want.length ≤ 200) (k : Nat) (hk : 202 < k) :
    (if ((([] : List Int)).length : Int) = 0 then ((interchangeref05_Ints.f k want want).bind fun t241 => (some t241)) else (some false)) = some true := by
  rw [if_pos (by simp), ints_f want want (by omega) k (by omega)]
  simp

theorem order_serve (a : Int) (ha : 1 ≤ a) (want : List Int) (hw : want.length ≤ 200) (d : Nat) : ∀ (k c : Nat) (L got : List Int), c ≤ 300 → 300 - c = d → got ++ L = want → L.length + c ≤ 300 → d + 203 < k →
    interchangelaw14_LineOrder.l1 k a true L want got (c : Int) = some true := by
  induction d with
  | zero =>
    intro k c L got h1 hd hg hL hk
    obtain ⟨k, rfl⟩ : ∃ m, k = m + 1 := ⟨k - 1, by omega⟩
    simp only [interchangelaw14_LineOrder.l1]
    obtain rfl : L = [] := List.eq_nil_of_length_eq_zero (by omega)
    rw [if_neg (by omega), if_pos trivial]
    rw [List.append_nil] at hg
    subst hg
    exact order_done got hw k (by omega)
  | succ d ih =>
    intro k c L got h1 hd hg hL hk
    obtain ⟨k, rfl⟩ : ∃ m, k = m + 1 := ⟨k - 1, by omega⟩
    simp only [interchangelaw14_LineOrder.l1]
    rw [if_pos (by omega)]
    have hlen := congrArg List.length hg
    rw [List.length_append] at hlen
    by_cases hz : L = []
    · subst hz
      rw [if_neg (by simp), if_pos trivial]
      rw [List.append_nil] at hg
      subst hg
      exact order_done got hw k (by omega)
    · have hpos : 0 < L.length := List.length_pos_iff.2 hz
      rw [if_pos (by omega)]
      unfold line_Serve.f
      rw [if_pos (by omega)]
      simp only [Option.bind_some]
      have ht := List.length_take_le a.toNat L
      have hd2 : (L.drop a.toNat).length = L.length - a.toNat := List.length_drop
      rw [if_pos (by rw [List.length_take]; omega), wrap_nat (m := 301) (by omega) (by omega)]
      refine ih k (c + 1) (L.drop a.toNat) (got ++ L.take a.toNat) (by omega) (by omega) ?_ (by omega) (by omega)
      rw [List.append_assoc, List.take_append_drop, hg]

theorem order_add (l : List Int) (hl : l.length ≤ 200) (a : Int) (ha : 1 ≤ a) (d : Nat) : ∀ (k n : Nat) (L : List Int), n ≤ l.length → l.length - n = d → L.length ≤ n → d + 505 < k →
    interchangelaw14_LineOrder.l0 k l a true L L (n : Int) = some true := by
  induction d with
  | zero =>
    intro k n L h1 hd hL hk
    obtain ⟨k, rfl⟩ : ∃ m, k = m + 1 := ⟨k - 1, by omega⟩
    simp only [interchangelaw14_LineOrder.l0]
    rw [if_neg (by omega)]
    exact order_serve a ha L (by omega) 300 k 0 L [] (by omega) rfl rfl (by omega) (by omega)
  | succ d ih =>
    intro k n L h1 hd hL hk
    obtain ⟨k, rfl⟩ : ∃ m, k = m + 1 := ⟨k - 1, by omega⟩
    have hlt : n < l.length := by omega
    simp only [interchangelaw14_LineOrder.l0]
    rw [if_pos (by omega), if_pos (by omega), rd_nat l n hlt, wrap_nat hlt (by omega)]
    unfold line_Add.f
    simp only [Option.bind_some]
    by_cases c1 : l[n] < 1
    · rw [if_pos c1, if_neg (by simp)]
      exact ih k (n + 1) L (by omega) (by omega) (by omega) (by omega)
    · rw [if_neg c1]
      by_cases c2 : 0 ≤ idx L l[n]
      · rw [if_pos c2, if_neg (by simp)]
        exact ih k (n + 1) L (by omega) (by omega) (by omega) (by omega)
      · rw [if_neg c2]
        by_cases c3 : mn (mx 500 0) 1000 ≤ (L.length : Int)
        · rw [if_pos c3, if_neg (by simp)]
          exact ih k (n + 1) L (by omega) (by omega) (by omega) (by omega)
        · rw [if_neg c3, if_pos rfl, if_pos (by omega)]
          exact ih k (n + 1) (L ++ [l[n]]) (by omega) (by omega) (by rw [List.length_append, List.length_singleton]; omega) (by omega)

theorem order_no (k : Nat) (l : List Int) (a : Int) (x : Bool) : interchangelaw14_LineOrder.j0 (k + 1) l a x true = some x := by
  simp only [interchangelaw14_LineOrder.j0]
  rw [if_pos trivial]
theorem order_yes (k : Nat) (l : List Int) (a : Int) (x : Bool) : interchangelaw14_LineOrder.j0 (k + 1) l a x false = interchangelaw14_LineOrder.l0 k l a x [] [] 0 := by
  simp only [interchangelaw14_LineOrder.j0]
  rw [if_neg (by simp)]

theorem LineOrder : interchangelaw14_LineOrder.Pure := by
  intro l a _ h8 _ _
  obtain ⟨k, hk⟩ : ∃ k : Nat, 900 < k := ⟨1000, by omega⟩
  refine ⟨k + 1, ?_⟩
  unfold interchangelaw14_LineOrder.f
  rw [shown_true]
  simp only [Option.bind_some]
  by_cases c : (l.length : Int) > 200
  · rw [if_pos c, order_no]
  · rw [if_neg c]
    by_cases c2 : a < 1
    · rw [decide_eq_true c2, order_no]
    · rw [decide_eq_false c2, order_yes]
      exact order_add l (by omega) a (by omega) l.length k 0 [] (by omega) (by omega) (by simp) (by omega)
end Go.Proofs.Ytpfaidejbnbelaa.Pure
