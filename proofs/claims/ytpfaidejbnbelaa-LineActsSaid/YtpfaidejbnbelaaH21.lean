/- slices.DeleteFunc at []int, over a row of the call's own: what it computes, and that its call does so. -/
import Derived.Test.YtpfaidejbnbelaaH25
import Derived.Lib.SliceRun
namespace Go.Proofs.Ytpfaidejbnbelaa.Q
open Go.RowKit Go.Proofs.YtpfaidejbnbelaaW.PrintWords Go.Proofs.YtpfaidejbnbelaaW.PrintLast Go.Proofs.YtpfaidejbnbelaaW.PrintMore
set_option linter.unusedVariables false
set_option linter.unusedSimpArgs false

theorem idxPF_spec {α : Type} (p : α → Bool) : ∀ (l : List α) (k : Nat), (idxPF p l k = -1 ∧ ∀ x ∈ l, p x = false) ∨ ∃ (n : Nat) (hn : n < l.length), idxPF p l k = ((k + n : Nat) : Int) ∧ (∀ j (hj : j < n), p (l[j]'(by omega)) = false) ∧ p l[n] = true
  | [], _ => .inl ⟨rfl, fun x hx => by cases hx⟩
  | x :: r, k => by
    cases h : p x with
    | true => exact .inr ⟨0, by simp, by simp [idxPF, h], fun j hj => absurd hj (Nat.not_lt_zero _), h⟩
    | false =>
      rcases idxPF_spec p r (k + 1) with ⟨e, ha⟩ | ⟨n, hn, e, hf, ht⟩
      · refine .inl ⟨by simp [idxPF, h, e], fun y hy => ?_⟩
        rcases List.mem_cons.1 hy with rfl | hy
        · exact h
        · exact ha y hy
      · refine .inr ⟨n + 1, by simpa using hn, by simp only [idxPF, h, Bool.false_eq_true, if_false]; rw [e]; congr 1; omega, fun j hj => ?_, by simpa using ht⟩
        cases j with
        | zero => exact h
        | succ j => simpa using hf j (by omega)

/-- What the row holds while it is rewritten. -/
structure DelInv {α : Type} (p : α → Bool) (l dk : List α) (i j : Nat) : Prop where
  len : dk.length = l.length
  lt : i < j
  le : j ≤ l.length
  low : dk.take i = (l.take j).filter fun x => !p x
  high : ∀ m, j ≤ m → dk[m]? = l[m]?
theorem DelInv.start {α : Type} {p : α → Bool} {l : List α} {n : Nat} (hn : n < l.length) (hf : ∀ j (hj : j < n), p (l[j]'(by omega)) = false) (ht : p l[n] = true) : DelInv p l l n (n + 1) := by
  refine ⟨rfl, by omega, by omega, ?_, fun _ _ => rfl⟩
  rw [List.take_succ_eq_append_getElem hn, List.filter_append]
  have h1 : (l.take n).filter (fun x => !p x) = l.take n := by
    rw [List.filter_eq_self]
    intro x hx
    obtain ⟨j, hj, rfl⟩ := List.getElem_of_mem hx
    rw [List.length_take] at hj
    rw [List.getElem_take, hf j (by omega)]
    rfl
  rw [h1]
  simp [ht]
theorem DelInv.skip {α : Type} {p : α → Bool} {l dk : List α} {i j : Nat} (h : DelInv p l dk i j) (hj : j < l.length) (hp : p l[j] = true) : DelInv p l dk i (j + 1) := by
  refine ⟨h.len, by have := h.lt; omega, by omega, ?_, fun m hm => h.high m (by omega)⟩
  rw [List.take_succ_eq_append_getElem hj, List.filter_append, ← h.low]
  simp [hp]
theorem DelInv.keep {α : Type} {p : α → Bool} {l dk : List α} {i j : Nat} (h : DelInv p l dk i j) (hj : j < l.length) (hp : p l[j] = false) : DelInv p l (dk.set i l[j]) (i + 1) (j + 1) := by
  have hlt := h.lt
  refine ⟨by rw [List.length_set]; exact h.len, by omega, by omega, ?_, fun m hm => ?_⟩
  · have hi : i < (dk.set i l[j]).length := by rw [List.length_set, h.len]; omega
    rw [List.take_succ_eq_append_getElem hi, List.take_succ_eq_append_getElem hj, List.filter_append, ← h.low, List.take_set, List.set_eq_of_length_le (by rw [List.length_take]; omega)]
    simp [hp]
  · rw [List.getElem?_set_ne (by omega)]
    exact h.high m (by omega)
theorem DelInv.at {α : Type} {p : α → Bool} {l dk : List α} {i j : Nat} (h : DelInv p l dk i j) (hj : j < l.length) : dk[j]? = some l[j] := by
  rw [h.high j (Nat.le_refl _), List.getElem?_eq_getElem hj]

set_option maxHeartbeats 8000000 in
set_option maxRecDepth 100000 in
theorem slices_DeleteFunc.calls (p : Int → Bool) (g : Nat) (lb : Array Value) (eg : ∀ args w, (callFunc g args).run Try.prog w = .ok (.enter g args) w) (S : World → Prop) (v : Value)
    (hS : ∀ W W' : World, W.heap.size ≤ W'.heap.size → (∀ k, some k ≠ v.ownBlock → k < W.heap.size → W'.heap[k]? = W.heap[k]?) → S W → S W')
    (hp : ∀ W x, S W → Calls Try.prog g (#[.int .i64 x] ++ lb) W fun e w' => e = .returned (.bool (p x)) ∧ Drawn0 W w')
    (base : Nat) (ok : Nat → Prop) (l0 : List Int) (w : World) (hR : Kd.R (Kd.int .i64) 3 w base ok v l0) (hw : S w) :
    Calls Try.prog 21 #[v, .func (.func g) #[] lb] w fun e w' => ∃ v' : Value, e = .returned v' ∧ Kd.R (Kd.int .i64) 3 w' base ok v' (l0.filter fun x => !p x) ∧ w.grownBy w' v.ownBlock := by
  obtain ⟨A0, c0, rfl⟩ := Kd.R_slice hR
  have hrd := Kd.R_reads' hR
  have hcap := hrd.2.1
  have hm := hrd.2.2.2.1
  have hIF := slices_IndexFunc.calls p g lb eg S (fun W n h => hS W _ (Nat.le_refl _) (fun _ _ _ => rfl) h) hp A0 c0 l0 w hrd.2.2 hw
  have HI := Aside0.mk hIF
  have HR := Aside0.mk hR
  have HP := Aside0.mk hp
  have HS := Aside0.mk hS
  have HW := Aside0.mk hw
  clear hIF hR hp hS hw hrd
  rcases idxPF_spec p l0 0 with ⟨e, ha⟩ | ⟨n, hn, e, hf, ht⟩
  · have HI1 := HI.out
    rw [show idxP p l0 = -1 from e] at HI1
    have HJ := Aside0.mk HI1
    have HA := Aside0.mk ha
    clear HI1 HI e ha
    go_enter Try.func21, Try.ntmps21
    go_wp2_with (go_at_call 25; refine HJ.out.mono ?_; rintro e w' ⟨rfl, ⟨nd, rfl⟩⟩)
    go_ret
    rw [show (l0.filter fun x => !p x) = l0 from List.filter_eq_self.2 (fun x hx => by rw [HA.out x hx]; rfl)]
    exact ⟨_, rfl, Kd.R_drewN HR.out _, grown_of_below (below_drewN0 w nd) _⟩
  · have HI1 := HI.out
    rw [show idxP p l0 = (n : Int) by rw [show idxP p l0 = idxPF p l0 0 from rfl, e]; omega] at HI1
    have HJ := Aside0.mk HI1
    have HD := Aside0.mk (DelInv.start hn hf ht)
    clear HI1 HI e hf ht
    obtain ⟨gb, cap, hv, hgb, hglt, _⟩ := Kd.R_form HR.out (by omega)
    injection hv with hv1 hv2 hv3
    subst hv1
    subst hv3
    have hne1 : ((n : Int) == -1) = false := beq_eq_false_iff_ne.2 (by omega)
    go_enter Try.func21, Try.ntmps21
    go_wp2_with (go_at_call 25; refine HJ.out.mono ?_; rintro e w' ⟨rfl, ⟨nd, rfl⟩⟩)
    go_loopg [5, 6] l0.length (fun gg v5 v6 wr => ∃ (i j : Nat) (dk : List Int), v5 = .int .i64 i ∧ v6 = .int .i64 j ∧ j ≤ l0.length ∧ l0.length - j ≤ gg ∧ Aside0 (DelInv p l0 dk i j) ∧ Aside0 (Kd.R (Kd.int .i64) 3 wr base ok (.slice (some ⟨gb, 0, none⟩) l0.length c0) dk) ∧ Aside0 (w.grownBy wr (some gb)))
    case atStart => exact ⟨n, n + 1, l0, rfl, by go_num, by omega, by omega, HD, ⟨Kd.R_drewN HR.out _⟩, ⟨grown_of_below (below_drewN0 w nd) _⟩⟩
    case round =>
      obtain ⟨i, j, dk, rfl, rfl, hj, hg, HD, HR, HG⟩ := hrel
      have hij := HD.out.lt
      have hlen := HD.out.len
      have HSw : S wr := HS.out w wr HG.out.size (fun k hk hlt => HG.out.block k hlt (by simpa [Value.ownBlock] using hk)) HW.out
      by_cases hlt : j < l0.length
      · have hltz : (j : Int) < (l0.length : Int) := by omega
        have hdj : dk[j]'(by omega) = l0[j] := by have h2 := HD.out.at hlt; rw [List.getElem?_eq_getElem (by omega)] at h2; exact Option.some.inj h2
        obtain ⟨cj, fj⟩ := Kd.R_celln (0 : Int) HR.out (j : Int) (by omega) hltz
        rw [Int.toNat_natCast, show rdOf (0 : Int) dk (j : Int) = l0[j] by simp [rdOf, ← hdj, show j < dk.length by omega]] at cj
        clear fj
        obtain ⟨ci, fi⟩ := Kd.R_celln (0 : Int) HR.out (i : Int) (by omega) (by omega)
        rw [Int.toNat_natCast] at ci fi
        have hcall := HP.out wr l0[j] HSw
        have HDk := Aside0.mk (fun h => HD.out.keep hlt h)
        have HDs := Aside0.mk (fun h => HD.out.skip hlt h)
        clear hdj
        generalize l0[j] = y at cj hcall HDk HDs
        cases hq : p y with
        | true =>
          rw [hq] at hcall
          have HK := Aside0.mk hcall
          have HQ := Aside0.mk hq
          clear hcall hq
          go_wp2_with fail
          refine HK.out.mono ?_
          rintro e w' ⟨rfl, ⟨nd2, rfl⟩⟩
          go_wp2
          go_roundg (l0.length - (j + 1))
          case measure => omega
          case rel => exact ⟨i, j + 1, dk, rfl, by go_num, by omega, Nat.le_refl _, ⟨HDs.out HQ.out⟩, ⟨Kd.R_drewN HR.out _⟩, ⟨HG.out.trans (grown_of_below (below_drewN0 _ _) _)⟩⟩
        | false =>
          rw [hq] at hcall
          have HK := Aside0.mk hcall
          have HQ := Aside0.mk hq
          clear hcall hq
          go_wp2_with fail
          refine HK.out.mono ?_
          rintro e w' ⟨rfl, ⟨nd2, rfl⟩⟩
          go_wp2
          go_roundg (l0.length - (j + 1))
          case measure => omega
          case rel =>
            have hst := Kd.R_putg (Kd.R_drewN HR.out nd2) (i : Int) y
            rw [Int.toNat_natCast] at hst
            exact ⟨i + 1, j + 1, dk.set i y, by go_num, by go_num, by omega, Nat.le_refl _, ⟨HDk.out HQ.out⟩, ⟨hst.1⟩, ⟨HG.out.trans ((grown_of_below (below_drewN0 _ _) _).trans hst.2)⟩⟩
      · obtain rfl : j = l0.length := by omega
        have hltz : ¬ (l0.length : Int) < (l0.length : Int) := by omega
        have hv5 := fun (W : World) => (0 : Nat)
        have hzv : ∀ w, (zeroValue 3).run Try.prog w = .ok (.int .i64 0) w := fun w => by kernel_rfl
        have hcl : ∀ ty, (Builtin.clear_ #[22] ty #[.slice (some ⟨gb, i, none⟩) (l0.length - i) (c0 - i)]).run Try.prog wr = .ok (.tuple #[]) (wr.setCells gb i (List.replicate (l0.length - i) (.int .i64 0))) :=
          fun ty => Lib.run_clear_slice wr 22 3 ty (.int .i64 0) Try.underlying22 hzv rfl rfl gb i _ _ (by omega) (fun t ht => by
            obtain ⟨c, f⟩ := Kd.R_celln (0 : Int) HR.out ((i + t : Nat) : Int) (by omega) (by omega)
            rw [Int.toNat_natCast] at c
            rw [c]; rfl) (fun t ht => by
            obtain ⟨c, f⟩ := Kd.R_celln (0 : Int) HR.out ((i + t : Nat) : Int) (by omega) (by omega)
            rw [Int.toNat_natCast] at f
            exact f)
        have hcut := R_cut_clear (Flat.int _) HR.out (m := i) (by omega) (List.replicate (l0.length - i) (.int .i64 0)) (by show i * 1 + _ ≤ c0 * 1; simp; omega)
        have hm1 : i * (Kd.int .i64).sz = i := Nat.mul_one i
        rw [hm1] at hcut
        have HCUT := Aside0.mk hcut
        clear hcut hv5 hzv hm1
        go_wp2
        go_ret
        have hlow := HD.out.low
        rw [List.take_length] at hlow
        have h2 := HCUT.out
        rw [hlow] at h2
        exact ⟨_, rfl, h2.1, HG.out.trans h2.2⟩
end Go.Proofs.Ytpfaidejbnbelaa.Q
