/- Where a shared row lies: not in a block that isn't its own. -/
import Derived.Test.YtoljcjlflanflaaWMore
namespace Go.Proofs.Ytoljcjlflanflaa.Q
open Go.RowKit Go.Proofs.YtoljcjlflanflaaW.PrintWords Go.Proofs.YtoljcjlflanflaaW.PrintLast Go.Proofs.YtoljcjlflanflaaW.PrintMore
theorem V_away1 {α : Type} {d : Kd α} {e base n c g : Nat} {W : World} {ok : Nat → Prop} {ad : Addr} {xs : List α} (h : Kd.V d e W base ok (.slice (some ad) n c) xs) (hp : 0 < xs.length) (hsz : 0 < d.sz) (hok : ∀ k, ok k → k ≠ g) : ad.block ≠ g := by
  intro hg
  obtain ⟨rfl, hnc, hF⟩ := Kd.V_at h
  obtain ⟨x, r, rfl⟩ : ∃ x r, xs = x :: r := by
    cases xs with
    | nil => simp at hp
    | cons x r => exact ⟨x, r, rfl⟩
  have hC := Kd.F_now (Kd.F_step (W1 := { W with heap := W.heap.setIfInBounds g (.deferred none) }) hF (fun k hk _ => by
    show (W.heap.setIfInBounds g _)[k]? = _
    rw [Array.getElem?_setIfInBounds_ne (Ne.symm (hok k hk))]))
  obtain ⟨a, ha, hx⟩ := hC.2.2 (by simp)
  cases ha
  obtain ⟨cs, hl, hK, hcs⟩ := hx 0 x rfl
  cases cs with
  | nil => simp at hl; omega
  | cons u t =>
    have h0 := hcs 0 u rfl
    subst hg
    simp only [World.cell?, Nat.zero_mul, Nat.zero_add, Addr.add] at h0
    simp only [if_true] at h0
    by_cases hlt : ad.block < W.heap.size
    · rw [Array.getElem?_setIfInBounds_self_of_lt hlt] at h0
      cases h0
    · rw [Array.getElem?_eq_none (by simp; omega)] at h0
      cases h0
end Go.Proofs.Ytoljcjlflanflaa.Q
