/- slices.IndexFunc at []uint64: what they compute, and that their calls do so. -/
import Derived.Test.YtngbkagamhakiaaQ0
import Derived.Test.YtngbkagamhakiaaC
import Derived.WalkSpells
namespace Go.Proofs.Ytngbkagamhakiaa.Q
open Go.RowKit Go.Proofs.YtngbkagamhakiaaW.PrintWords Go.Proofs.YtngbkagamhakiaaW.PrintLast Go.Proofs.YtngbkagamhakiaaW.PrintMore
set_option linter.unusedVariables false
set_option linter.unusedSimpArgs false

/-- The first place at which p holds, from k on; or -1. -/
def idxPF {α : Type} (p : α → Bool) : List α → Nat → Int
  | [], _ => -1
  | x :: r, k => if p x then (k : Int) else idxPF p r (k + 1)
def idxP {α : Type} (p : α → Bool) (l : List α) : Int := idxPF p l 0
theorem idxPF_all {α : Type} (p : α → Bool) : ∀ (l : List α) (k : Nat), (∀ x ∈ l, p x = false) → idxPF p l k = -1
  | [], _, _ => rfl
  | x :: r, k, h => by
    rw [idxPF, h x List.mem_cons_self]
    exact idxPF_all p r (k + 1) (fun y hy => h y (List.mem_cons_of_mem _ hy))
theorem idxPF_hit {α : Type} (p : α → Bool) : ∀ (l : List α) (k n : Nat) (hn : n < l.length), (∀ j (hj : j < n), p (l[j]'(by omega)) = false) → p l[n] = true → idxPF p l k = ((k + n : Nat) : Int)
  | [], _, n, hn, _, _ => absurd hn (Nat.not_lt_zero _)
  | x :: r, k, 0, _, _, ht => by
    have ht' : p x = true := ht
    rw [idxPF, if_pos ht']; rfl
  | x :: r, k, n + 1, hn, hf, ht => by
    have h0 : p x = false := hf 0 (by omega)
    rw [idxPF, h0]
    have := idxPF_hit p r (k + 1) n (by simpa using hn) (fun j hj => hf (j + 1) (by omega)) ht
    simp only [Bool.false_eq_true, if_false]
    rw [this]
    congr 1
    omega

set_option maxHeartbeats 8000000 in
set_option maxRecDepth 100000 in
theorem slices_IndexFunc.calls (p : Int → Bool) (g : Nat) (lb : Array Value) (eg : ∀ args w, (callFunc g args).run Try.prog w = .ok (.enter g args) w) (S : World → Prop) (hS : ∀ W n, S W → S (W.drewN n))
    (hp : ∀ W x, S W → Calls Try.prog g (#[.int .u64 x] ++ lb) W fun e w' => e = .returned (.bool (p x)) ∧ Drawn0 W w')
    (A0 : Option Addr) (c0 : Nat) (l0 : List Int) (w : World) (hC : Kd.C (Kd.int .u64) w A0 l0.length l0) (hw : S w) :
    Calls Try.prog 27 #[.slice A0 l0.length c0, .func (.func g) #[] lb] w fun e w' => e = .returned (.int .i64 (idxP p l0)) ∧ Drawn0 w w' := by
  have hm : l0.length ≤ 9223372036854775807 := hC.2.1
  have HC := Aside0.mk hC
  have HP := Aside0.mk hp
  have HS := Aside0.mk hS
  have HW := Aside0.mk hw
  clear hC hp hS hw
  go_enter Try.func27, Try.ntmps27
  go_wp2
  go_loopg [8] l0.length (fun gg v8 wr => ∃ n : Nat, n ≤ l0.length ∧ l0.length - n ≤ gg ∧ v8 = .int .i64 n ∧ Aside0 (∀ j (h : j < l0.length), j < n → p l0[j] = false) ∧ Drawn0 w wr)
  case atStart => exact ⟨0, Nat.zero_le _, by omega, rfl, ⟨fun j _ h => absurd h (Nat.not_lt_zero _)⟩, Drawn0.refl _⟩
  case round =>
    obtain ⟨n, hn, hg, rfl, HF, ⟨nd, rfl⟩⟩ := hrel
    by_cases hlt : n < l0.length
    · have hltz : (n : Int) < (l0.length : Int) := by omega
      obtain ⟨ad, e1, hx⟩ := Kd.at_int HC.out n (by omega) hltz
      cases e1
      rw [show rd l0 (n : Int) = l0[n] by simp [rd, hlt], Int.toNat_natCast] at hx
      have hcall := HP.out (w.drewN nd) l0[n] (HS.out _ _ HW.out)
      generalize hy : l0[n] = y at hx hcall
      have HY := Aside0.mk hy
      clear hy
      cases hq : p y with
      | true =>
        rw [hq] at hcall
        have HK := Aside0.mk hcall
        have HQ := Aside0.mk hq
        clear hcall hq
        go_wp2_with fail
        refine HK.out.mono ?_
        rintro e w' ⟨rfl, ⟨nd2, rfl⟩⟩
        go_wp2
        go_ret
        refine ⟨?_, ⟨⟨_, rfl⟩⟩⟩
        have e1 : idxP p l0 = (n : Int) := by
          unfold idxP
          rw [idxPF_hit p l0 0 n hlt (fun j hj => HF.out j (by omega) hj) (by rw [HY.out]; exact HQ.out)]
          omega
        simp only [e1]
        rfl
      | false =>
        rw [hq] at hcall
        have HK := Aside0.mk hcall
        have HQ := Aside0.mk hq
        clear hcall hq
        go_wp2_with fail
        refine HK.out.mono ?_
        rintro e w' ⟨rfl, ⟨nd2, rfl⟩⟩
        go_wp2
        go_roundg (l0.length - (n + 1))
        case measure => omega
        case rel => exact ⟨n + 1, by omega, Nat.le_refl _, by go_num, ⟨fun j hj hlt2 => by
          by_cases e : j = n
          · subst e; rw [HY.out]; exact HQ.out
          · exact HF.out j hj (by omega)⟩, ⟨⟨_, rfl⟩⟩⟩
    · have hltz : ¬ (n : Int) < (l0.length : Int) := by omega
      obtain rfl : n = l0.length := by omega
      go_wp2
      go_ret
      refine ⟨?_, ⟨⟨_, rfl⟩⟩⟩
      have e1 : idxP p l0 = -1 := by
        unfold idxP
        refine idxPF_all p l0 0 (fun x hx => ?_)
        obtain ⟨j, hj, rfl⟩ := List.getElem_of_mem hx
        exact HF.out j hj hj
      simp only [e1]
      rfl
end Go.Proofs.Ytngbkagamhakiaa.Q
