/- Laws of this session's own, over the printed words: flat kinds (elements that lead to no other row), an append to a row that is full. slices.Clone at []int and at []api.Slot: what it computes, and that its call does so. slices.IndexFunc at []api.Slot, find, place and their closures: what they compute, and that their calls do so. find, place and their closures: what they compute, and that their calls do so. pool.Of, pool.At: what they compute, and that their calls do so. pool.At: what it computes, and that its call does so. pool.without: what it computes, and that its call does so. pool.Clean: what it computes, and that its call does so. pool.Down: what it computes, and that its call does so. pool.set and what it calls; Opened, Release: what they compute, and that their calls do so. pool.set: what it computes, and that its call does so. pool.Release, pool.Opened: what they compute, and that their calls do so. -/
import Derived.Test.YtgiofigjnchfeaaS
import Derived.Test.YtgiofigjnchfeaaQ0
import Derived.WalkSpells
import Derived.WalkMore
import Derived.Shelf.Abstract
import Derived.RegionCalls
namespace Go.Proofs.Ytgiofigjnchfeaa.Q
open Go.RowKit Go.Proofs.YtgiofigjnchfeaaW.PrintWords Go.Proofs.YtgiofigjnchfeaaW.PrintLast Go.Proofs.YtgiofigjnchfeaaW.PrintMore
set_option linter.unusedVariables false
set_option linter.unusedSimpArgs false

theorem below_drewN0 (w : World) (n : Nat) : Below w.heap.size w (w.drewN n) := pw_below_drewN (Below.refl _ _) n
/-- A call of a function that has a body enters it. -/
theorem enters_at {P : Program} {f : FuncId} {fn : Func} {c : Code} (hf : P.funcs[f]? = some fn) (hname : (fn.name == "runtime.NumGoroutine") = false) (hb : fn.body = some c) (args : Array Value) (w : World) : (callFunc f args).run P w = .ok (.enter f args) w := by
 have h1 : fn.name ≠ "runtime.NumGoroutine" := by simpa using hname
 simp [callFunc, hf, h1, hb, mark]
/-- Elements that lead to no other row. -/
def Flat {α : Type} (d : Kd α) : Prop := ∀ (w w' : World) (base : Nat) (ok : Nat → Prop) (x : α) (cs : List Value), d.K w x cs → d.M w' base ok x cs
theorem Flat.int (k : IntKind) : Flat (Kd.int k) := fun _ _ _ _ _ _ h => h
theorem Flat.bool : Flat Kd.bool := fun _ _ _ _ _ _ h => h
theorem Flat.string : Flat Kd.string := fun _ _ _ _ _ _ h => h
theorem Flat.pair {α β : Type} {a : Kd α} {b : Kd β} (ha : Flat a) (hb : Flat b) : Flat (Kd.pair a b) := by
 rintro w w' base ok x cs ⟨c0, c1, rfl, h0, h1⟩
 exact ⟨c0, c1, rfl, ha w w' base ok _ _ h0, hb w w' base ok _ _ h1⟩
theorem Flat.iso {α β : Type} {d : Kd α} (hd : Flat d) (f : β → α) : Flat (Kd.iso d f) := fun w w' base ok x cs h => hd w w' base ok (f x) cs h
theorem Flat.C {α : Type} {d : Kd α} (hd : Flat d) {w w' : World} {A : Option Addr} {n : Nat} {xs : List α} (h : d.C w A n xs) (hc : ∀ a v, w.cell? a = some v → w'.cell? a = some v) : d.C w' A n xs :=
 ⟨h.1, h.2.1, fun hn => by
  obtain ⟨ad, e, hx⟩ := h.2.2 hn
  refine ⟨ad, e, fun j p hj => ?_⟩
  obtain ⟨c, hl, hk, hcc⟩ := hx j p hj
  exact ⟨c, hl, d.K_of_M (hd w w' 0 (fun _ => True) _ _ hk), fun i u hu => hc _ _ (hcc i u hu)⟩⟩
/-- A flat row's own, out of its cells. -/
theorem flat_R {α : Type} {d : Kd α} (hd : Flat d) {e base : Nat} {w w0 : World} {v : Value} {xs : List α} {inner : List Value} (ho : w.ownsRow base e d.sz v xs.length inner) (hr : Reps (d.K w0) d.sz xs inner) : d.R e w base (fun _ => True) v xs :=
 ⟨fun _ _ => trivial, inner, ho, hr.imp_ (fun p c h => hd w0 w base _ p c h)⟩
theorem Reps.one {α : Type} {R : α → List Value → Prop} {size : Nat} {p : α} {c : List Value} (hp : R p c) (hc : c.length = size) : Reps R size [p] c := by
 have := Reps.snoc (Reps.none R size) hp hc
 simpa using this

/-- '[]T{}'. -/
theorem R_lit0 {α : Type} (d : Kd α) (e : Nat) (w : World) : d.R e (w.alloc (.cells #[] e)) w.heap.size (fun _ => True) (.slice (some ⟨w.heap.size, 0, none⟩) 0 0) [] :=
 ⟨fun _ _ => trivial, OwnRow.lit (R := d.M _ w.heap.size _) (ps := []) (inner := []) w w.heap.size (Reps.none _ _) (Nat.le_refl _) (by simp)⟩

/-- What lies behind the first m is written: the first m stay. -/
theorem R_cut_clear {α : Type} {d : Kd α} {e base g n cap m : Nat} {ok : Nat → Prop} {w : World} {xs : List α} (hd : Flat d) (h : d.R e w base ok (.slice (some ⟨g, 0, none⟩) n cap) xs) (hm : m ≤ xs.length) (vs : List Value) (hv : m * d.sz + vs.length ≤ cap * d.sz) :
  d.R e (w.setCells g (m * d.sz) vs) base ok (.slice (some ⟨g, 0, none⟩) m cap) (xs.take m) ∧ w.grownBy (w.setCells g (m * d.sz) vs) (some g) := by
 have h1 := Kd.R_take h hm
 obtain ⟨hok, inner, ho, hr⟩ := h1
 have hl : (xs.take m).length = m := by rw [List.length_take]; omega
 rw [hl] at ho
 obtain ⟨hil, h2⟩ := ho
 rcases h2 with ⟨he, _⟩ | ⟨g', cap', cur, he, hb, hh, hnc, hcm, hcs, ht⟩
 ·
  injection he with he
  cases he
 ·
  injection he with he1 _ he3
  injection he1 with he1
  injection he1 with he1
  subst he1
  subst he3
  obtain ⟨cur', hh', hsz', htl'⟩ := setCells_row vs (m * d.sz) w cur hh (by rw [hcs]; exact hv)
  have hsame := setCells_same g vs (m * d.sz) w
  refine ⟨⟨hok, inner, ?_, hr.imp_ (fun p c hp => hd w _ base _ p c (d.K_of_M hp))⟩, ⟨hsame.1, hsame.2.1, hsame.2.2.1, by rw [hsame.2.2.2]; exact Nat.le_refl _, fun k hk hne => setCells_far vs _ k (fun e => hne (by rw [e]))⟩⟩
  rw [hl]
  refine ⟨hil, .inr ⟨g, cap, cur', rfl, hb, hh', hnc, hcm, by rw [hsz', hcs], ?_⟩⟩
  rw [← ht, htl', List.append_assoc, List.take_append_of_le_length (by rw [List.length_take, Array.length_toList, hcs]; have := Nat.mul_le_mul_right d.sz hnc; omega), List.take_take, Nat.min_self]

section
variable {P : Program} {ops : Array Oper} {rest : List Oper} {o : Oper} {a : Act} {Q : Exit → Act → World → Prop} {α : Type}
/-- append(xs[:n:n], p), xs read: a new row. Behind 'at_builtin'; the goal's world is W with the variadic's box. -/
theorem wp_append_full (d : Kd α) (hd : Flat d) {W : World} (hgd : o.guard = none) (s x : Operand) (t e : TypeId) (z : Value) (bytes : Nat)
  (ho : o.op = .call { callee := .builtin .append, args := #[s, x], argTypes := #[t, t] })
  (ht : P.underlying t = some (.slice e)) (hinfo : (P.info? e).map (fun i => (i.zero, i.size, i.bytes)) = some (some z, d.sz, bytes)) (hz : z.cells.size = d.sz) (hs0 : 0 < d.sz) (hb0 : 0 < bytes)
  (A : Option Addr) (xs : List α) (p : α) (cs : List Value) (hs : a.eval s = .slice A xs.length xs.length) (hx : a.eval x = .slice (some ⟨W.heap.size, 0, none⟩) 1 1) (hp : d.K W p cs)
  (hC : d.C W A xs.length xs) (hl : (xs.length + 1) * bytes ≤ 140737488355328)
  (h : ∀ v1 w1, d.R e w1 W.heap.size (fun _ => True) v1 (xs ++ [p]) → Below W.heap.size W w1 → wpList P ops Q rest (a.put o.dst v1) w1) :
  wpList P ops Q (o :: rest) a (W.alloc (.cells cs.toArray e)) := by
 obtain ⟨i0, hi, hzz⟩ := Option.map_eq_some_iff.1 hinfo
 simp only [Prod.mk.injEq] at hzz
 obtain ⟨hz0, hz1, hz2⟩ := hzz
 have hlen : xs.length + 1 ≤ 140737488355328 := Nat.le_trans (Nat.le_mul_of_pos_right _ hb0) hl
 have hcl := d.K_len hp
 have hbW : Below W.heap.size W (W.alloc (.cells cs.toArray e)) := below_alloc (Below.refl _ _) _
 have hnew : ∀ j u, cs[j]? = some u → (W.alloc (.cells cs.toArray e)).cell? ((⟨W.heap.size, 0, none⟩ : Addr).add j) = some u := by
  intro j u hu
  have := World.news_of_block (cs := cs.toArray) (t := e) (fr := (0, 0)) (heap_alloc_new W (.cells cs.toArray e)) j u
  exact this (by simpa using hu)
 have hC' := Kd.C_below hC hbW
 have hold : ∃ olds : List Value, Reps (d.K W) d.sz xs olds ∧ ∀ b, A = some b → ∀ j u, olds[j]? = some u → (W.alloc (.cells cs.toArray e)).cell? (b.add j) = some u := by
  rcases A with _ | ad
  ·
   have h0 : xs.length = 0 := by
    rcases Nat.eq_zero_or_pos xs.length with h0 | h0
    ·
     exact h0
    ·
     obtain ⟨ad, h, _⟩ := hC.2.2 h0
     cases h
   obtain rfl : xs = [] := List.eq_nil_of_length_eq_zero h0
   exact ⟨[], Reps.none _ _, fun b hb => by cases hb⟩
  ·
   obtain ⟨news, hnr, hnc⟩ := ReadsRow.inner_ hC'
   refine ⟨news, hnr.imp_ (fun p c hp => d.K_of_M (hd _ W 0 (fun _ => True) p c hp)), fun b hb => ?_⟩
   cases hb
   exact hnc
 obtain ⟨olds, hor, hoc⟩ := hold
 refine wpList_append_grows (W.alloc (.cells cs.toArray e)) hgd s x t ho e i0 z d.sz bytes ht hi hz0 hz1 hz2 hz hs0 A xs.length xs.length olds hs ?_ hor.1 hoc ⟨W.heap.size, 0, none⟩ 1 1 cs hx (by omega) hnew (d.K_one hp) (by omega) (by simp only [maxLen]; omega) hl ?_
 ·
  intro hA
  subst hA
  have h0 : xs.length = 0 := by
   rcases Nat.eq_zero_or_pos xs.length with h0 | h0
   ·
    exact h0
   ·
    obtain ⟨ad, h, _⟩ := hC.2.2 h0
    cases h
  exact ⟨h0, h0⟩
 ·
  intro v' w' hown hg
  have hb1 : Below W.heap.size W w' := hbW.grown hg (by simp) (by simp)
  refine h v' w' (flat_R hd (w0 := W) (inner := olds ++ cs) ?_ (Kd.reps_append hor (Reps.one hp hcl))) hb1
  rw [List.length_append, List.length_singleton]
  exact own_weaken hown (by simp)
end
end Go.Proofs.Ytgiofigjnchfeaa.Q

namespace Go.Proofs.Ytgiofigjnchfeaa.Q
open Go.RowKit Go.Proofs.YtgiofigjnchfeaaW.PrintWords Go.Proofs.YtgiofigjnchfeaaW.PrintLast Go.Proofs.YtgiofigjnchfeaaW.PrintMore
set_option linter.unusedVariables false
set_option linter.unusedSimpArgs false

theorem C_none {α : Type} {d : Kd α} {w : World} {n : Nat} {xs : List α} (h : d.C w none n xs) : xs = [] ∧ n = 0 := by
 have h0 : n = 0 := by
  rcases Nat.eq_zero_or_pos n with h0 | h0
  ·
   exact h0
  ·
   obtain ⟨ad, h, _⟩ := h.2.2 h0
   cases h
 exact ⟨List.eq_nil_of_length_eq_zero (by rw [h.1, h0]), h0⟩
theorem Flat.k29 : Flat k29 := Flat.iso (Flat.pair (Flat.int _) (Flat.pair (Flat.int _) (Flat.pair (Flat.int _) (Flat.int _)))) _
theorem info29' : (Try.prog.info? 29).map (fun i => (i.zero, i.size, i.bytes)) = some (some (.agg #[.int .i64 0, .int .i64 0, .int .i64 0, .int .i64 0]), 4, 32) := by kernel_rfl
theorem info3' : (Try.prog.info? 3).map (fun i => (i.zero, i.size, i.bytes)) = some (some (.int .i64 0), 1, 8) := by kernel_rfl

def slices_Clone_int_int.f (l0 : List Int) : Option (List Int) := if l0.length ≤ 17592186044416 then some l0 else none

set_option maxHeartbeats 8000000 in
set_option maxRecDepth 100000 in
theorem slices_Clone_int_int.calls (A0 : Option Addr) (c0 : Nat) (l0 : List Int) (r : List Int) (w : World) (hC : Kd.C (Kd.int .i64) w A0 l0.length l0) (hc0 : l0.length ≤ c0) (h : slices_Clone_int_int.f l0 = some r) :
  Calls Try.prog 44 #[.slice A0 l0.length c0] w fun e w' => ∃ v : Value, e = .returned v ∧ Kd.R (Kd.int .i64) 3 w' w.heap.size (fun _ => True) v r ∧ Below w.heap.size w w' := by
 have hr : l0.length ≤ 17592186044416 := by
  unfold slices_Clone_int_int.f at h
  by_cases hh : l0.length ≤ 17592186044416
  ·
   exact hh
  ·
   rw [if_neg hh] at h; cases h
 obtain rfl : l0 = r := by
  unfold slices_Clone_int_int.f at h
  rw [if_pos hr] at h
  exact Option.some.inj h
 clear h
 have HC := Aside0.mk hC
 clear hC
 have hq := fun (W : World) (a : Option Addr) (n c : Nat) => Lib.run_eql_slice_nil (P := Try.prog) W 22 3 a n c 0 0 Try.underlying22
 cases A0 with
 | none =>
  obtain ⟨rfl, _⟩ := C_none HC.out
  go_enter Try.func44, Try.ntmps44
  go_wp2
  go_ret
  exact ⟨_, rfl, Kd.R_nil _ _ _ _ _, Below.refl _ _⟩
 | some ad =>
  go_enter Try.func44, Try.ntmps44
  go_wp2_with (at_builtin; refine Kd.R_append_rows (Kd.int .i64) (Rr := (Kd.int .i64).K w) (w0 := w) w.heap.size rfl (.tmp 5) (.tmp 6) 22 3 (.int .i64 0) 8 rfl Try.underlying22 info3' rfl (by decide) (by decide) (.slice (some ⟨w.heap.size, 0, none⟩) 0 0) [] l0 (some ad) l0.length c0 (fun _ => True) (fun _ => False) rfl rfl ?aO ?aR (fun x cs h => h) (fun _ h => h.elim) (fun _ _ => trivial) ?aB ?aS ?aL ?_; (case aO => exact R_lit0 _ 3 w); (case aR => exact Kd.C_alloc HC.out _); (case aB => exact below_alloc (Below.refl _ _) _); (case aS => simp); (case aL => simp; omega); intro v1 w1 ho hb hgr hat)
  go_ret
  exact ⟨_, rfl, ho, hb⟩

set_option maxHeartbeats 8000000 in
set_option maxRecDepth 100000 in
theorem slices_Clone_Slot.calls (A0 : Option Addr) (c0 : Nat) (l0 : List S29) (w : World) (hC : Kd.C k29 w A0 l0.length l0) (hr : l0.length ≤ 4398046511000) :
  Calls Try.prog 39 #[.slice A0 l0.length c0] w fun e w' => ∃ v : Value, e = .returned v ∧ Kd.R k29 29 w' w.heap.size (fun _ => True) v l0 ∧ Below w.heap.size w w' := by
 have HC := Aside0.mk hC
 clear hC
 have hq := fun (W : World) (a : Option Addr) (n c : Nat) => Lib.run_eql_slice_nil (P := Try.prog) W 23 29 a n c 0 0 Try.underlying23
 cases A0 with
 | none =>
  obtain ⟨rfl, _⟩ := C_none HC.out
  go_enter Try.func39, Try.ntmps39
  go_wp2
  go_ret
  exact ⟨_, rfl, Kd.R_nil _ _ _ _ _, Below.refl _ _⟩
 | some ad =>
  go_enter Try.func39, Try.ntmps39
  go_wp2_with (at_builtin; refine Kd.R_append_rows k29 (Rr := k29.K w) (w0 := w) w.heap.size rfl (.tmp 5) (.tmp 6) 23 29 (.agg #[.int .i64 0, .int .i64 0, .int .i64 0, .int .i64 0]) 32 rfl Try.underlying23 info29' rfl (by decide) (by decide) (.slice (some ⟨w.heap.size, 0, none⟩) 0 0) [] l0 (some ad) l0.length c0 (fun _ => True) (fun _ => False) rfl rfl ?aO ?aR (fun x cs h => Flat.k29 _ _ _ _ _ _ h) (fun _ h => h.elim) (fun _ _ => trivial) ?aB ?aS ?aL ?_; (case aO => exact R_lit0 _ 29 w); (case aR => exact Kd.C_alloc HC.out _); (case aB => exact below_alloc (Below.refl _ _) _); (case aS => simp); (case aL => simp; omega); intro v1 w1 ho hb hgr hat)
  go_ret
  exact ⟨_, rfl, ho, hb⟩
end Go.Proofs.Ytgiofigjnchfeaa.Q

namespace Go.Proofs.Ytgiofigjnchfeaa.Q
open Go.RowKit Go.Proofs.YtgiofigjnchfeaaW.PrintWords Go.Proofs.YtgiofigjnchfeaaW.PrintLast Go.Proofs.YtgiofigjnchfeaaW.PrintMore
set_option linter.unusedVariables false
set_option linter.unusedSimpArgs false

/-- The first place at which p holds, from k on; or -1. -/
def idxPF {α : Type} (p : α → Bool) : List α → Nat → Int
 | [], _ => -1
 | x :: r, k => if p x then (k : Int) else idxPF p r (k + 1)
def idxP {α : Type} (p : α → Bool) (l : List α) : Int := idxPF p l 0
theorem idxPF_all {α : Type} (p : α → Bool) : ∀ (l : List α) (k : Nat), (∀ x ∈ l, p x = false) → idxPF p l k = -1
 | [], _, _ => rfl
 | x :: r, k, h => by
  rw [idxPF, h x List.mem_cons_self]
  exact idxPF_all p r (k + 1) (fun y hy => h y (List.mem_cons_of_mem _ hy))
theorem idxPF_hit {α : Type} (p : α → Bool) : ∀ (l : List α) (k n : Nat) (hn : n < l.length), (∀ j (hj : j < n), p (l[j]'(by omega)) = false) → p l[n] = true → idxPF p l k = ((k + n : Nat) : Int)
 | [], _, n, hn, _, _ => absurd hn (Nat.not_lt_zero _)
 | x :: r, k, 0, _, _, ht => by
  have ht' : p x = true := ht
  rw [idxPF, if_pos ht']; rfl
 | x :: r, k, n + 1, hn, hf, ht => by
  have h0 : p x = false := hf 0 (by omega)
  rw [idxPF, h0]
  have := idxPF_hit p r (k + 1) n (by simpa using hn) (fun j hj => hf (j + 1) (by omega)) ht
  simp only [Bool.false_eq_true, if_false]
  rw [this]
  congr 1
  omega

set_option maxHeartbeats 8000000 in
set_option maxRecDepth 100000 in
theorem slices_IndexFunc.calls (A : Option Addr) (c : Nat) (l : List S29) (km : Nat) (cap : Array Value) (p : S29 → Bool) (w : World) (hC : Kd.C k29 w A l.length l)
  (eK : ∀ args w, (callFunc km args).run Try.prog w = .ok (.enter km args) w)
  (hmay : ∀ (X : World) (x : S29), (∀ k, k < w.heap.size → X.heap[k]? = w.heap[k]?) → Calls Try.prog km (#[.agg #[.int .i64 x.f0, .int .i64 x.f1, .int .i64 x.f2, .int .i64 x.f3]] ++ cap) X fun e w' => e = .returned (.bool (p x)) ∧ Below X.heap.size X w') :
  Calls Try.prog 53 #[.slice A l.length c, .func (.func km) #[] cap] w fun e w' => e = .returned (.int .i64 (idxP p l)) ∧ Below w.heap.size w w' := by
 have hm : l.length ≤ 9223372036854775807 := hC.2.1
 have HC := Aside0.mk hC
 have HM := Aside0.mk hmay
 clear hC hmay
 go_enter Try.func53, Try.ntmps53
 go_wp2
 go_loopg [8] l.length (fun gg v8 wr => ∃ n : Nat, n ≤ l.length ∧ l.length - n ≤ gg ∧ v8 = .int .i64 n ∧ Aside0 (∀ j (h : j < l.length), j < n → p l[j] = false) ∧ Aside0 (Below w.heap.size w wr))
 case atStart => exact ⟨0, Nat.zero_le _, by omega, rfl, ⟨fun j _ h => absurd h (Nat.not_lt_zero _)⟩, ⟨Below.refl _ _⟩⟩
 case round =>
  obtain ⟨n, hn, hg, rfl, HF, HB⟩ := hrel
  by_cases hlt : n < l.length
  ·
   have hltz : (n : Int) < (l.length : Int) := by omega
   obtain ⟨ad, e1, hx0, hx1, hx2, hx3⟩ := at_T29 (Kd.C_below HC.out HB.out) (n : Int) (by omega) hltz
   cases e1
   rw [show rd_T29 l (n : Int) = l[n] by simp [rd_T29, hlt], Int.toNat_natCast] at hx0 hx1 hx2 hx3
   have hcall := HM.out wr l[n] (fun k hk => HB.out.block k hk)
   have hne0 : (0 : Int) ≤ (n : Int) := by omega
   generalize hy : l[n] = y at hx0 hx1 hx2 hx3 hcall
   have HY := Aside0.mk hy
   clear hy
   cases hq : p y with
   | true =>
    rw [hq] at hcall
    have HK := Aside0.mk hcall
    have HQ := Aside0.mk hq
    clear hcall hq
    go_wp2_with (go_at_fn km; refine HK.out.mono ?_; rintro e w' ⟨rfl, hb⟩; have HB2 := Aside0.mk (HB.out.trans (hb.mono HB.out.size)); clear hb)
    go_ret
    refine ⟨?_, HB2.out⟩
    have e1 : idxP p l = (n : Int) := by
     unfold idxP
     rw [idxPF_hit p l 0 n hlt (fun j hj => HF.out j (by omega) hj) (by rw [HY.out]; exact HQ.out)]
     omega
    simp only [e1]
    rfl
   | false =>
    rw [hq] at hcall
    have HK := Aside0.mk hcall
    have HQ := Aside0.mk hq
    clear hcall hq
    go_wp2_with (go_at_fn km; refine HK.out.mono ?_; rintro e w' ⟨rfl, hb⟩; have HB2 := Aside0.mk (HB.out.trans (hb.mono HB.out.size)); clear hb)
    go_roundg (l.length - (n + 1))
    case measure => omega
    case rel => exact ⟨n + 1, by omega, Nat.le_refl _, by go_num, ⟨fun j hj hlt2 => by
     by_cases e : j = n
     ·
      subst e; rw [HY.out]; exact HQ.out
     ·
      exact HF.out j hj (by omega)⟩, HB2⟩
  ·
   have hltz : ¬ (n : Int) < (l.length : Int) := by omega
   obtain rfl : n = l.length := by omega
   go_wp2
   go_ret
   refine ⟨?_, HB.out⟩
   have e1 : idxP p l = -1 := by
    unfold idxP
    refine idxPF_all p l 0 (fun x hx => ?_)
    obtain ⟨j, hj, rfl⟩ := List.getElem_of_mem hx
    exact HF.out j hj hj
   simp only [e1]
   rfl
end Go.Proofs.Ytgiofigjnchfeaa.Q

namespace Go.Proofs.Ytgiofigjnchfeaa.Q
open Go.RowKit Go.Proofs.YtgiofigjnchfeaaW.PrintWords Go.Proofs.YtgiofigjnchfeaaW.PrintLast Go.Proofs.YtgiofigjnchfeaaW.PrintMore
set_option linter.unusedVariables false
set_option linter.unusedSimpArgs false

theorem eK36 : ∀ args w, (callFunc 36 args).run Try.prog w = .ok (.enter 36 args) w := enters_at Try.func36 (by kernel_rfl) rfl
theorem eK40 : ∀ args w, (callFunc 40 args).run Try.prog w = .ok (.enter 40 args) w := enters_at Try.func40 (by kernel_rfl) rfl
theorem eK43 : ∀ args w, (callFunc 43 args).run Try.prog w = .ok (.enter 43 args) w := enters_at Try.func43 (by kernel_rfl) rfl
theorem eK46 : ∀ args w, (callFunc 46 args).run Try.prog w = .ok (.enter 46 args) w := enters_at Try.func46 (by kernel_rfl) rfl
theorem eK47 : ∀ args w, (callFunc 47 args).run Try.prog w = .ok (.enter 47 args) w := enters_at Try.func47 (by kernel_rfl) rfl
theorem eK48 : ∀ args w, (callFunc 48 args).run Try.prog w = .ok (.enter 48 args) w := enters_at Try.func48 (by kernel_rfl) rfl
theorem eK51 : ∀ args w, (callFunc 51 args).run Try.prog w = .ok (.enter 51 args) w := enters_at Try.func51 (by kernel_rfl) rfl
theorem eK56 : ∀ args w, (callFunc 56 args).run Try.prog w = .ok (.enter 56 args) w := enters_at Try.func56 (by kernel_rfl) rfl

theorem cell_alloc {w : World} {b j : Nat} {v : Value} (h : w.cell? ⟨b, j, none⟩ = some v) (hlt : b < w.heap.size) (o : Obj) : (w.alloc o).cell? ⟨b, j, none⟩ = some v :=
 ((below_alloc (Below.refl w.heap.size w) _).cell (p := ⟨b, j, none⟩) hlt).trans h

set_option maxHeartbeats 8000000 in
set_option maxRecDepth 100000 in
theorem pool_find.calls (A0 : Option Addr) (n0 c0 : Nat) (A : Option Addr) (c : Nat) (l : List S29) (km : Nat) (cap : Array Value) (p : S29 → Bool) (w : World) (hC : Kd.C k29 w A l.length l)
  (eK : ∀ args w, (callFunc km args).run Try.prog w = .ok (.enter km args) w)
  (hmay : ∀ (X : World) (x : S29), (∀ k, k < w.heap.size → X.heap[k]? = w.heap[k]?) → Calls Try.prog km (#[.agg #[.int .i64 x.f0, .int .i64 x.f1, .int .i64 x.f2, .int .i64 x.f3]] ++ cap) X fun e w' => e = .returned (.bool (p x)) ∧ Below X.heap.size X w') :
  Calls Try.prog 35 #[.agg #[.slice A0 n0 c0, .slice A l.length c], .func (.func km) #[] cap] w fun e w' => e = .returned (.tuple #[.int .i64 (idxP p l), .bool (decide (0 ≤ idxP p l))]) ∧ Below w.heap.size w w' := by
 have hu25 := Try.underlying25
 have HI := Aside0.mk (slices_IndexFunc.calls A c l km cap p (w.alloc (.cells #[.slice A0 n0 c0, .slice A l.length c] 25)) (Kd.C_alloc hC _) eK (fun X x hX => hmay X x (fun k hk => (hX k (by simp; omega)).trans (Below.heap_alloc _ _ k hk))))
 generalize idxP p l = i at HI ⊢
 clear hC hmay eK
 go_enter Try.func35, Try.ntmps35
 go_wp2_with (go_at_call 53; refine HI.out.mono ?_; rintro e w' ⟨rfl, hb⟩; have HB := Aside0.mk ((below_alloc (Below.refl w.heap.size w) _).trans (hb.mono (by simp))); clear hb)
 go_ret2
 exact ⟨rfl, HB.out⟩

set_option maxHeartbeats 8000000 in
set_option maxRecDepth 100000 in
theorem place1.calls (x0 x1 x2 x3 c ch : Int) (b1 b2 : Nat) (w : World) (h1 : w.cell? ⟨b1, 0, none⟩ = some (.int .i64 c)) (l1 : b1 < w.heap.size) (h2 : w.cell? ⟨b2, 0, none⟩ = some (.int .i64 ch)) (l2 : b2 < w.heap.size) :
  Calls Try.prog 56 #[.agg #[.int .i64 x0, .int .i64 x1, .int .i64 x2, .int .i64 x3], .pointer (some ⟨b1, 0, none⟩), .pointer (some ⟨b2, 0, none⟩)] w fun e w' => e = .returned (.bool (x0 == c && x1 == ch)) ∧ Below w.heap.size w w' := by
 have hu29 := Try.underlying29
 have g1 := cell_alloc h1 l1 (.cells #[.int .i64 x0, .int .i64 x1, .int .i64 x2, .int .i64 x3] 29)
 have g2 := cell_alloc h2 l2 (.cells #[.int .i64 x0, .int .i64 x1, .int .i64 x2, .int .i64 x3] 29)
 clear h1 h2
 cases q0 : (x0 == c) with
 | true =>
  go_enter Try.func56, Try.ntmps56
  go_wp2
  go_ret
  exact ⟨rfl, below_alloc (Below.refl _ _) _⟩
 | false =>
  go_enter Try.func56, Try.ntmps56
  go_wp2
  go_ret
  exact ⟨rfl, below_alloc (Below.refl _ _) _⟩

set_option maxHeartbeats 8000000 in
set_option maxRecDepth 100000 in
theorem Of1.calls (x0 x1 x2 x3 who : Int) (b1 : Nat) (w : World) (h1 : w.cell? ⟨b1, 0, none⟩ = some (.int .i64 who)) (l1 : b1 < w.heap.size) :
  Calls Try.prog 40 #[.agg #[.int .i64 x0, .int .i64 x1, .int .i64 x2, .int .i64 x3], .pointer (some ⟨b1, 0, none⟩)] w fun e w' => e = .returned (.bool (x3 == who && decide (0 < who))) ∧ Below w.heap.size w w' := by
 have hu29 := Try.underlying29
 have g1 := cell_alloc h1 l1 (.cells #[.int .i64 x0, .int .i64 x1, .int .i64 x2, .int .i64 x3] 29)
 clear h1
 cases q0 : (x3 == who) with
 | true =>
  go_enter Try.func40, Try.ntmps40
  go_wp2
  go_ret
  exact ⟨rfl, below_alloc (Below.refl _ _) _⟩
 | false =>
  go_enter Try.func40, Try.ntmps40
  go_wp2
  go_ret
  exact ⟨rfl, below_alloc (Below.refl _ _) _⟩

set_option maxHeartbeats 8000000 in
set_option maxRecDepth 100000 in
theorem Down1.calls (x0 x1 x2 x3 c : Int) (b1 : Nat) (w : World) (h1 : w.cell? ⟨b1, 0, none⟩ = some (.int .i64 c)) (l1 : b1 < w.heap.size) :
  Calls Try.prog 43 #[.agg #[.int .i64 x0, .int .i64 x1, .int .i64 x2, .int .i64 x3], .pointer (some ⟨b1, 0, none⟩)] w fun e w' => e = .returned (.bool (x0 == c)) ∧ Below w.heap.size w w' := by
 have hu29 := Try.underlying29
 have g1 := cell_alloc h1 l1 (.cells #[.int .i64 x0, .int .i64 x1, .int .i64 x2, .int .i64 x3] 29)
 clear h1
 go_enter Try.func43, Try.ntmps43
 go_wp2
 go_ret
 exact ⟨rfl, below_alloc (Below.refl _ _) _⟩

set_option maxHeartbeats 8000000 in
set_option maxRecDepth 100000 in
theorem Clean1.calls (x0 x1 x2 x3 c ch : Int) (b1 b2 : Nat) (w : World) (h1 : w.cell? ⟨b1, 0, none⟩ = some (.int .i64 c)) (l1 : b1 < w.heap.size) (h2 : w.cell? ⟨b2, 0, none⟩ = some (.int .i64 ch)) (l2 : b2 < w.heap.size) :
  Calls Try.prog 47 #[.agg #[.int .i64 x0, .int .i64 x1, .int .i64 x2, .int .i64 x3], .pointer (some ⟨b1, 0, none⟩), .pointer (some ⟨b2, 0, none⟩)] w fun e w' => e = .returned (.bool ((x0 == c && x1 == ch) && x2 == 3)) ∧ Below w.heap.size w w' := by
 have hu29 := Try.underlying29
 have g1 := cell_alloc h1 l1 (.cells #[.int .i64 x0, .int .i64 x1, .int .i64 x2, .int .i64 x3] 29)
 have g2 := cell_alloc h2 l2 (.cells #[.int .i64 x0, .int .i64 x1, .int .i64 x2, .int .i64 x3] 29)
 clear h1 h2
 cases q0 : (x0 == c) with
 | true =>
  cases q1 : (x1 == ch) with
  | true =>
   go_enter Try.func47, Try.ntmps47
   go_wp2
   go_ret
   exact ⟨rfl, below_alloc (Below.refl _ _) _⟩
  | false =>
   go_enter Try.func47, Try.ntmps47
   go_wp2
   go_ret
   exact ⟨rfl, below_alloc (Below.refl _ _) _⟩
 | false =>
  go_enter Try.func47, Try.ntmps47
  go_wp2
  go_ret
  exact ⟨rfl, below_alloc (Below.refl _ _) _⟩

set_option maxHeartbeats 8000000 in
set_option maxRecDepth 100000 in
theorem less.calls (x0 x1 x2 x3 y0 y1 y2 y3 : Int) (w : World) :
  Calls Try.prog 37 #[.agg #[.int .i64 x0, .int .i64 x1, .int .i64 x2, .int .i64 x3], .agg #[.int .i64 y0, .int .i64 y1, .int .i64 y2, .int .i64 y3]] w fun e w' => e = .returned (.bool (decide (x0 < y0) || (x0 == y0 && decide (x1 < y1)))) ∧ Below w.heap.size w w' := by
 have hu29 := Try.underlying29
 by_cases c0 : x0 < y0
 ·
  rw [decide_eq_true c0]
  go_enter Try.func37, Try.ntmps37
  go_wp2
  go_ret
  exact ⟨rfl, below_alloc (below_alloc (Below.refl _ _) _) _⟩
 ·
  rw [decide_eq_false c0]
  cases q0 : (x0 == y0) with
  | true =>
   go_enter Try.func37, Try.ntmps37
   go_wp2
   go_ret
   exact ⟨rfl, below_alloc (below_alloc (Below.refl _ _) _) _⟩
  | false =>
   go_enter Try.func37, Try.ntmps37
   go_wp2
   go_ret
   exact ⟨rfl, below_alloc (below_alloc (Below.refl _ _) _) _⟩

def atP (c ch : Int) (s : S29) : Bool := s.f0 == c && s.f1 == ch
def ofP (who : Int) (s : S29) : Bool := s.f3 == who && decide (0 < who)

set_option maxHeartbeats 8000000 in
set_option maxRecDepth 100000 in
theorem pool_place.calls (A0 : Option Addr) (n0 c0 : Nat) (A : Option Addr) (cc : Nat) (l : List S29) (c ch : Int) (w : World) (hC : Kd.C k29 w A l.length l) :
  Calls Try.prog 41 #[.agg #[.slice A0 n0 c0, .slice A l.length cc], .int .i64 c, .int .i64 ch] w fun e w' => e = .returned (.tuple #[.int .i64 (idxP (atP c ch) l), .bool (decide (0 ≤ idxP (atP c ch) l))]) ∧ Below w.heap.size w w' := by
 have hu25 := Try.underlying25
 have HI := Aside0.mk (pool_find.calls A0 n0 c0 A cc l 56 #[.pointer (some ⟨w.heap.size + 1, 0, none⟩), .pointer (some ⟨w.heap.size + 1 + 1, 0, none⟩)] (atP c ch) (((w.alloc (.cells #[.slice A0 n0 c0, .slice A l.length cc] 25)).alloc (.cells #[.int .i64 c] 3)).alloc (.cells #[.int .i64 ch] 3)) (Kd.C_alloc (Kd.C_alloc (Kd.C_alloc hC _) _) _) eK56
  (fun X x hX => by
   have e1 : X.heap[w.heap.size + 1]? = some (.cells #[.int .i64 c] 3 (0, 0)) := (hX _ (by simp)).trans (blk_alloc (by simpa using blk_new (w.alloc (.cells #[.slice A0 n0 c0, .slice A l.length cc] 25)) (.cells #[.int .i64 c] 3)) _)
   have e2 : X.heap[w.heap.size + 1 + 1]? = some (.cells #[.int .i64 ch] 3 (0, 0)) := (hX _ (by simp)).trans (by simpa using blk_new ((w.alloc (.cells #[.slice A0 n0 c0, .slice A l.length cc] 25)).alloc (.cells #[.int .i64 c] 3)) (.cells #[.int .i64 ch] 3))
   exact place1.calls x.f0 x.f1 x.f2 x.f3 c ch _ _ X ((blk_cell e1 0).trans rfl) (blk_lt e1) ((blk_cell e2 0).trans rfl) (blk_lt e2)))
 generalize idxP (atP c ch) l = i at HI ⊢
 clear hC
 go_enter Try.func41, Try.ntmps41
 go_wp2_with (go_at_call 35; refine HI.out.mono ?_; rintro e w' ⟨rfl, hb⟩; have HB := Aside0.mk ((below_alloc (below_alloc (below_alloc (Below.refl w.heap.size w) _) _) _).trans (hb.mono (by simp; omega))); clear hb)
 go_ret2
 exact ⟨rfl, HB.out⟩
end Go.Proofs.Ytgiofigjnchfeaa.Q

namespace Go.Proofs.Ytgiofigjnchfeaa.Q
open Go.RowKit Go.Proofs.YtgiofigjnchfeaaW.PrintWords Go.Proofs.YtgiofigjnchfeaaW.PrintLast Go.Proofs.YtgiofigjnchfeaaW.PrintMore
set_option linter.unusedVariables false
set_option linter.unusedSimpArgs false

theorem idxPF_cases {α : Type} (p : α → Bool) : ∀ (l : List α) (k : Nat), (idxPF p l k = -1 ∧ l.find? p = none ∧ ∀ x ∈ l, p x = false) ∨ ∃ (n : Nat) (h : n < l.length), idxPF p l k = ((k + n : Nat) : Int) ∧ l.find? p = some l[n] ∧ p l[n] = true ∧ ∀ j (hj : j < n), p (l[j]'(by omega)) = false
 | [], k => .inl ⟨rfl, rfl, fun x hx => by cases hx⟩
 | x :: r, k => by
  cases hx : p x with
  | true => exact .inr ⟨0, by simp, by simp [idxPF, hx], by simp [hx], hx, fun j hj => absurd hj (Nat.not_lt_zero _)⟩
  | false =>
   rcases idxPF_cases p r (k + 1) with ⟨h1, h2, h3⟩ | ⟨n, hn, h1, h2, h3, h4⟩
   ·
    refine .inl ⟨by simp [idxPF, hx, h1], by simp [hx, h2], fun y hy => ?_⟩
    rcases List.mem_cons.1 hy with rfl | hy
    ·
     exact hx
    ·
     exact h3 y hy
   ·
    refine .inr ⟨n + 1, by simpa using hn, by simp only [idxPF, hx, Bool.false_eq_true, if_false, h1]; congr 1; omega, by simp [hx, h2], by simpa using h3, fun j hj => ?_⟩
    cases j with
    | zero => exact hx
    | succ j => simpa using h4 j (by omega)
theorem idxP_cases {α : Type} (p : α → Bool) (l : List α) : (idxP p l = -1 ∧ l.find? p = none ∧ ∀ x ∈ l, p x = false) ∨ ∃ (n : Nat) (h : n < l.length), idxP p l = (n : Int) ∧ l.find? p = some l[n] ∧ p l[n] = true ∧ ∀ j (hj : j < n), p (l[j]'(by omega)) = false := by
 rcases idxPF_cases p l 0 with h | ⟨n, hn, h1, h2⟩
 ·
  exact .inl h
 ·
  exact .inr ⟨n, hn, by rw [idxP, h1]; omega, h2⟩

def pool_Of.f (l0_0 : List Int) (l0_1 : List S29) (a1 : Int) : Option (Int × Int × Int × Int × Bool) :=
 match l0_1.find? (ofP a1) with
 | some s => some (s.f0, s.f1, s.f2, s.f3, true)
 | none => some (0, 0, 0, 0, false)
def pool_At.f (l0_0 : List Int) (l0_1 : List S29) (a1 a2 : Int) : Option (Int × Int × Int × Int × Bool) :=
 match l0_1.find? (atP a1 a2) with
 | some s => some (s.f0, s.f1, s.f2, s.f3, true)
 | none => some (0, 0, 0, 0, false)

set_option maxHeartbeats 8000000 in
set_option maxRecDepth 100000 in
theorem pool_Of.calls (A0 : Option Addr) (c0 : Nat) (l0_0 : List Int) (A : Option Addr) (c : Nat) (l : List S29) (a1 : Int) (r1 r2 r3 r4 : Int) (r5 : Bool) (w : World) (hr0 : Kd.C (Kd.int .i64) w A0 l0_0.length l0_0) (hc0 : l0_0.length ≤ c0) (hC : Kd.C k29 w A l.length l) (hc : l.length ≤ c) (h : pool_Of.f l0_0 l a1 = some (r1, r2, r3, r4, r5)) :
  Calls Try.prog 14 #[.agg #[.slice A0 l0_0.length c0, .slice A l.length c], .int .i64 a1] w fun e w' => e = .returned (.tuple #[.agg #[.int .i64 r1, .int .i64 r2, .int .i64 r3, .int .i64 r4], .bool r5]) ∧ Below w.heap.size w w' := by
 have hu25 := Try.underlying25
 have hu29 := Try.underlying29
 generalize l0_0.length = n0 at *
 have HI := Aside0.mk (pool_find.calls A0 n0 c0 A c l 40 #[.pointer (some ⟨w.heap.size + 1, 0, none⟩)] (ofP a1) (((w.alloc (.cells #[.slice A0 n0 c0, .slice A l.length c] 25)).alloc (.cells #[.int .i64 a1] 3)).alloc (.cells #[.int .i64 0, .int .i64 0, .int .i64 0, .int .i64 0] 29)) (Kd.C_alloc (Kd.C_alloc (Kd.C_alloc hC _) _) _) eK40
  (fun X x hX => by
   have e1 : X.heap[w.heap.size + 1]? = some (.cells #[.int .i64 a1] 3 (0, 0)) := (hX _ (by simp)).trans (blk_alloc (by simpa using blk_new (w.alloc (.cells #[.slice A0 n0 c0, .slice A l.length c] 25)) (.cells #[.int .i64 a1] 3)) _)
   exact Of1.calls x.f0 x.f1 x.f2 x.f3 a1 _ X ((blk_cell e1 0).trans rfl) (blk_lt e1)))
 have HBK : Aside0 ((((w.alloc (.cells #[.slice A0 n0 c0, .slice A l.length c] 25)).alloc (.cells #[.int .i64 a1] 3)).alloc (.cells #[.int .i64 0, .int .i64 0, .int .i64 0, .int .i64 0] 29)).heap[w.heap.size]? = some (.cells #[.slice A0 n0 c0, .slice A l.length c] 25 (0, 0))) := ⟨blk_alloc (blk_alloc (blk_new _ _) _) _⟩
 have HBR : Aside0 ((((w.alloc (.cells #[.slice A0 n0 c0, .slice A l.length c] 25)).alloc (.cells #[.int .i64 a1] 3)).alloc (.cells #[.int .i64 0, .int .i64 0, .int .i64 0, .int .i64 0] 29)).heap[w.heap.size + 1 + 1]? = some (.cells #[.int .i64 0, .int .i64 0, .int .i64 0, .int .i64 0] 29 (0, 0))) := ⟨by simpa using blk_new ((w.alloc (.cells #[.slice A0 n0 c0, .slice A l.length c] 25)).alloc (.cells #[.int .i64 a1] 3)) (.cells #[.int .i64 0, .int .i64 0, .int .i64 0, .int .i64 0] 29)⟩
 have HB3 : Aside0 (Below w.heap.size w (((w.alloc (.cells #[.slice A0 n0 c0, .slice A l.length c] 25)).alloc (.cells #[.int .i64 a1] 3)).alloc (.cells #[.int .i64 0, .int .i64 0, .int .i64 0, .int .i64 0] 29))) := ⟨below_alloc (below_alloc (below_alloc (Below.refl _ _) _) _) _⟩
 have HCC := Aside0.mk hC
 have hm : l.length ≤ 9223372036854775807 := hC.2.1
 unfold pool_Of.f at h
 rcases idxP_cases (ofP a1) l with ⟨h1, h2, -⟩ | ⟨n, hn, h1, h2, -, -⟩
 ·
  rw [h2] at h
  simp only [Option.some.injEq, Prod.mk.injEq] at h
  obtain ⟨rfl, rfl, rfl, rfl, rfl⟩ := h
  rw [h1] at HI
  clear hC hr0 hc0 h1 h2 hc
  go_enter Try.func14, Try.ntmps14
  go_wp2_with (go_at_call 35; refine HI.out.mono ?_; rintro e w4 ⟨rfl, hb⟩; have bk3 := blk_below HBR.out hb; have hd0 : w4.cell? ⟨w.heap.size + 1 + 1, 0, none⟩ = some (.int .i64 0) := (blk_cell bk3 0).trans rfl; have hd1 : w4.cell? ⟨w.heap.size + 1 + 1, 1, none⟩ = some (.int .i64 0) := (blk_cell bk3 1).trans rfl; have hd2 : w4.cell? ⟨w.heap.size + 1 + 1, 2, none⟩ = some (.int .i64 0) := (blk_cell bk3 2).trans rfl; have hd3 : w4.cell? ⟨w.heap.size + 1 + 1, 3, none⟩ = some (.int .i64 0) := (blk_cell bk3 3).trans rfl; have hfz := fun j => blk_frozen bk3 j; have BK3 := Aside0.mk bk3; have HB := Aside0.mk (HB3.out.trans (hb.mono HB3.out.size)); clear hb bk3)
  refine bodyPost_ret (results_ct rfl _ _ (w.heap.size + 1 + 1) 29 #[.int .i64 0, .int .i64 0, .int .i64 0, .int .i64 0] (0, 0) _ rfl (by refine blk_put (cs := #[.int .i64 0, .int .i64 0, .int .i64 0, .int .i64 0]) ?_ 3 _ rfl; refine blk_put (cs := #[.int .i64 0, .int .i64 0, .int .i64 0, .int .i64 0]) ?_ 2 _ rfl; refine blk_put (cs := #[.int .i64 0, .int .i64 0, .int .i64 0, .int .i64 0]) ?_ 1 _ rfl; refine blk_put (cs := #[.int .i64 0, .int .i64 0, .int .i64 0, .int .i64 0]) ?_ 0 _ rfl; exact BK3.out) Try.underlying29 rfl (by kernel_rfl)) rfl ?_
  exact ⟨rfl, below_set (below_set (below_set (below_set HB.out (by show w.heap.size ≤ w.heap.size + 1 + 1; omega)) (by show w.heap.size ≤ w.heap.size + 1 + 1; omega)) (by show w.heap.size ≤ w.heap.size + 1 + 1; omega)) (by show w.heap.size ≤ w.heap.size + 1 + 1; omega)⟩
 ·
  rw [h2] at h
  simp only [Option.some.injEq, Prod.mk.injEq] at h
  obtain ⟨e1, e2, e3, e4, rfl⟩ := h
  rw [h1, show decide ((0 : Int) ≤ (n : Int)) = true by simp] at HI
  have hltz : (n : Int) < (l.length : Int) := by omega
  have hn0 : (0 : Int) ≤ (n : Int) := by omega
  have hrd : rd_T29 l (n : Int) = l[n] := by simp [rd_T29, hn]
  have HRD := Aside0.mk (show (rd_T29 l (n : Int)).f0 = r1 ∧ (rd_T29 l (n : Int)).f1 = r2 ∧ (rd_T29 l (n : Int)).f2 = r3 ∧ (rd_T29 l (n : Int)).f3 = r4 by rw [hrd]; exact ⟨e1, e2, e3, e4⟩)
  clear hC hr0 hc0 h1 h2 e1 e2 e3 e4 hrd hc
  go_enter Try.func14, Try.ntmps14
  go_wp2_with (go_at_call 35; refine HI.out.mono ?_; rintro e w4 ⟨rfl, hb⟩; have bk3 := blk_below HBR.out hb; have hd0 : w4.cell? ⟨w.heap.size + 1 + 1, 0, none⟩ = some (.int .i64 0) := (blk_cell bk3 0).trans rfl; have hd1 : w4.cell? ⟨w.heap.size + 1 + 1, 1, none⟩ = some (.int .i64 0) := (blk_cell bk3 1).trans rfl; have hd2 : w4.cell? ⟨w.heap.size + 1 + 1, 2, none⟩ = some (.int .i64 0) := (blk_cell bk3 2).trans rfl; have hd3 : w4.cell? ⟨w.heap.size + 1 + 1, 3, none⟩ = some (.int .i64 0) := (blk_cell bk3 3).trans rfl; have hfz := fun j => blk_frozen bk3 j; have BK3 := Aside0.mk bk3; have bk1 := blk_below HBK.out hb; have hp1 : w4.cell? ⟨w.heap.size, 1, none⟩ = some (.slice A l.length c) := (blk_cell bk1 1).trans rfl; have HB := Aside0.mk (HB3.out.trans (hb.mono HB3.out.size)); clear hb bk3 bk1; obtain ⟨ad, e1, hx0, hx1, hx2, hx3⟩ := at_T29 (Kd.C_below HCC.out HB.out) (n : Int) hn0 hltz; cases e1; rw [Int.toNat_natCast] at hx0 hx1 hx2 hx3; rw [HRD.out.1] at hx0; rw [HRD.out.2.1] at hx1; rw [HRD.out.2.2.1] at hx2; rw [HRD.out.2.2.2] at hx3)
  refine bodyPost_ret (results_ct rfl _ _ (w.heap.size + 1 + 1) 29 #[.int .i64 r1, .int .i64 r2, .int .i64 r3, .int .i64 r4] (0, 0) _ rfl (by refine blk_put (cs := #[.int .i64 r1, .int .i64 r2, .int .i64 r3, .int .i64 0]) ?_ 3 _ rfl; refine blk_put (cs := #[.int .i64 r1, .int .i64 r2, .int .i64 0, .int .i64 0]) ?_ 2 _ rfl; refine blk_put (cs := #[.int .i64 r1, .int .i64 0, .int .i64 0, .int .i64 0]) ?_ 1 _ rfl; refine blk_put (cs := #[.int .i64 0, .int .i64 0, .int .i64 0, .int .i64 0]) ?_ 0 _ rfl; exact BK3.out) Try.underlying29 rfl (by kernel_rfl)) rfl ?_
  exact ⟨rfl, below_set (below_set (below_set (below_set HB.out (by show w.heap.size ≤ w.heap.size + 1 + 1; omega)) (by show w.heap.size ≤ w.heap.size + 1 + 1; omega)) (by show w.heap.size ≤ w.heap.size + 1 + 1; omega)) (by show w.heap.size ≤ w.heap.size + 1 + 1; omega)⟩
end Go.Proofs.Ytgiofigjnchfeaa.Q

namespace Go.Proofs.Ytgiofigjnchfeaa.Q
open Go.RowKit Go.Proofs.YtgiofigjnchfeaaW.PrintWords Go.Proofs.YtgiofigjnchfeaaW.PrintLast Go.Proofs.YtgiofigjnchfeaaW.PrintMore
set_option linter.unusedVariables false
set_option linter.unusedSimpArgs false

set_option maxHeartbeats 8000000 in
set_option maxRecDepth 100000 in
theorem pool_At.calls (A0 : Option Addr) (c0 : Nat) (l0_0 : List Int) (A : Option Addr) (c : Nat) (l : List S29) (a1 a2 : Int) (r1 r2 r3 r4 : Int) (r5 : Bool) (w : World) (hr0 : Kd.C (Kd.int .i64) w A0 l0_0.length l0_0) (hc0 : l0_0.length ≤ c0) (hC : Kd.C k29 w A l.length l) (hc : l.length ≤ c) (h : pool_At.f l0_0 l a1 a2 = some (r1, r2, r3, r4, r5)) :
  Calls Try.prog 16 #[.agg #[.slice A0 l0_0.length c0, .slice A l.length c], .int .i64 a1, .int .i64 a2] w fun e w' => e = .returned (.tuple #[.agg #[.int .i64 r1, .int .i64 r2, .int .i64 r3, .int .i64 r4], .bool r5]) ∧ Below w.heap.size w w' := by
 have hu25 := Try.underlying25
 have hu29 := Try.underlying29
 generalize l0_0.length = n0 at *
 have HI := Aside0.mk (pool_place.calls A0 n0 c0 A c l a1 a2 ((w.alloc (.cells #[.slice A0 n0 c0, .slice A l.length c] 25)).alloc (.cells #[.int .i64 0, .int .i64 0, .int .i64 0, .int .i64 0] 29)) (Kd.C_alloc (Kd.C_alloc hC _) _))
 have HBK : Aside0 (((w.alloc (.cells #[.slice A0 n0 c0, .slice A l.length c] 25)).alloc (.cells #[.int .i64 0, .int .i64 0, .int .i64 0, .int .i64 0] 29)).heap[w.heap.size]? = some (.cells #[.slice A0 n0 c0, .slice A l.length c] 25 (0, 0))) := ⟨blk_alloc (blk_new _ _) _⟩
 have HBR : Aside0 (((w.alloc (.cells #[.slice A0 n0 c0, .slice A l.length c] 25)).alloc (.cells #[.int .i64 0, .int .i64 0, .int .i64 0, .int .i64 0] 29)).heap[w.heap.size + 1]? = some (.cells #[.int .i64 0, .int .i64 0, .int .i64 0, .int .i64 0] 29 (0, 0))) := ⟨by simpa using blk_new (w.alloc (.cells #[.slice A0 n0 c0, .slice A l.length c] 25)) (.cells #[.int .i64 0, .int .i64 0, .int .i64 0, .int .i64 0] 29)⟩
 have HB3 : Aside0 (Below w.heap.size w ((w.alloc (.cells #[.slice A0 n0 c0, .slice A l.length c] 25)).alloc (.cells #[.int .i64 0, .int .i64 0, .int .i64 0, .int .i64 0] 29))) := ⟨below_alloc (below_alloc (Below.refl _ _) _) _⟩
 have HCC := Aside0.mk hC
 have hm : l.length ≤ 9223372036854775807 := hC.2.1
 unfold pool_At.f at h
 rcases idxP_cases (atP a1 a2) l with ⟨h1, h2, -⟩ | ⟨n, hn, h1, h2, -, -⟩
 ·
  rw [h2] at h
  simp only [Option.some.injEq, Prod.mk.injEq] at h
  obtain ⟨rfl, rfl, rfl, rfl, rfl⟩ := h
  rw [h1] at HI
  clear hC hr0 hc0 h1 h2 hc
  go_enter Try.func16, Try.ntmps16
  go_wp2_with (go_at_call 41; refine HI.out.mono ?_; rintro e w4 ⟨rfl, hb⟩; have bk3 := blk_below HBR.out hb; have hd0 : w4.cell? ⟨w.heap.size + 1, 0, none⟩ = some (.int .i64 0) := (blk_cell bk3 0).trans rfl; have hd1 : w4.cell? ⟨w.heap.size + 1, 1, none⟩ = some (.int .i64 0) := (blk_cell bk3 1).trans rfl; have hd2 : w4.cell? ⟨w.heap.size + 1, 2, none⟩ = some (.int .i64 0) := (blk_cell bk3 2).trans rfl; have hd3 : w4.cell? ⟨w.heap.size + 1, 3, none⟩ = some (.int .i64 0) := (blk_cell bk3 3).trans rfl; have hfz := fun j => blk_frozen bk3 j; have BK3 := Aside0.mk bk3; have HB := Aside0.mk (HB3.out.trans (hb.mono HB3.out.size)); clear hb bk3)
  refine bodyPost_ret (results_ct rfl _ _ (w.heap.size + 1) 29 #[.int .i64 0, .int .i64 0, .int .i64 0, .int .i64 0] (0, 0) _ rfl (by refine blk_put (cs := #[.int .i64 0, .int .i64 0, .int .i64 0, .int .i64 0]) ?_ 3 _ rfl; refine blk_put (cs := #[.int .i64 0, .int .i64 0, .int .i64 0, .int .i64 0]) ?_ 2 _ rfl; refine blk_put (cs := #[.int .i64 0, .int .i64 0, .int .i64 0, .int .i64 0]) ?_ 1 _ rfl; refine blk_put (cs := #[.int .i64 0, .int .i64 0, .int .i64 0, .int .i64 0]) ?_ 0 _ rfl; exact BK3.out) Try.underlying29 rfl (by kernel_rfl)) rfl ?_
  exact ⟨rfl, below_set (below_set (below_set (below_set HB.out (by show w.heap.size ≤ w.heap.size + 1; omega)) (by show w.heap.size ≤ w.heap.size + 1; omega)) (by show w.heap.size ≤ w.heap.size + 1; omega)) (by show w.heap.size ≤ w.heap.size + 1; omega)⟩
 ·
  rw [h2] at h
  simp only [Option.some.injEq, Prod.mk.injEq] at h
  obtain ⟨e1, e2, e3, e4, rfl⟩ := h
  rw [h1, show decide ((0 : Int) ≤ (n : Int)) = true by simp] at HI
  have hltz : (n : Int) < (l.length : Int) := by omega
  have hn0 : (0 : Int) ≤ (n : Int) := by omega
  have hrd : rd_T29 l (n : Int) = l[n] := by simp [rd_T29, hn]
  have HRD := Aside0.mk (show (rd_T29 l (n : Int)).f0 = r1 ∧ (rd_T29 l (n : Int)).f1 = r2 ∧ (rd_T29 l (n : Int)).f2 = r3 ∧ (rd_T29 l (n : Int)).f3 = r4 by rw [hrd]; exact ⟨e1, e2, e3, e4⟩)
  clear hC hr0 hc0 h1 h2 e1 e2 e3 e4 hrd hc
  go_enter Try.func16, Try.ntmps16
  go_wp2_with (go_at_call 41; refine HI.out.mono ?_; rintro e w4 ⟨rfl, hb⟩; have bk3 := blk_below HBR.out hb; have hd0 : w4.cell? ⟨w.heap.size + 1, 0, none⟩ = some (.int .i64 0) := (blk_cell bk3 0).trans rfl; have hd1 : w4.cell? ⟨w.heap.size + 1, 1, none⟩ = some (.int .i64 0) := (blk_cell bk3 1).trans rfl; have hd2 : w4.cell? ⟨w.heap.size + 1, 2, none⟩ = some (.int .i64 0) := (blk_cell bk3 2).trans rfl; have hd3 : w4.cell? ⟨w.heap.size + 1, 3, none⟩ = some (.int .i64 0) := (blk_cell bk3 3).trans rfl; have hfz := fun j => blk_frozen bk3 j; have BK3 := Aside0.mk bk3; have bk1 := blk_below HBK.out hb; have hp1 : w4.cell? ⟨w.heap.size, 1, none⟩ = some (.slice A l.length c) := (blk_cell bk1 1).trans rfl; have HB := Aside0.mk (HB3.out.trans (hb.mono HB3.out.size)); clear hb bk3 bk1; obtain ⟨ad, e1, hx0, hx1, hx2, hx3⟩ := at_T29 (Kd.C_below HCC.out HB.out) (n : Int) hn0 hltz; cases e1; rw [Int.toNat_natCast] at hx0 hx1 hx2 hx3; rw [HRD.out.1] at hx0; rw [HRD.out.2.1] at hx1; rw [HRD.out.2.2.1] at hx2; rw [HRD.out.2.2.2] at hx3)
  refine bodyPost_ret (results_ct rfl _ _ (w.heap.size + 1) 29 #[.int .i64 r1, .int .i64 r2, .int .i64 r3, .int .i64 r4] (0, 0) _ rfl (by refine blk_put (cs := #[.int .i64 r1, .int .i64 r2, .int .i64 r3, .int .i64 0]) ?_ 3 _ rfl; refine blk_put (cs := #[.int .i64 r1, .int .i64 r2, .int .i64 0, .int .i64 0]) ?_ 2 _ rfl; refine blk_put (cs := #[.int .i64 r1, .int .i64 0, .int .i64 0, .int .i64 0]) ?_ 1 _ rfl; refine blk_put (cs := #[.int .i64 0, .int .i64 0, .int .i64 0, .int .i64 0]) ?_ 0 _ rfl; exact BK3.out) Try.underlying29 rfl (by kernel_rfl)) rfl ?_
  exact ⟨rfl, below_set (below_set (below_set (below_set HB.out (by show w.heap.size ≤ w.heap.size + 1; omega)) (by show w.heap.size ≤ w.heap.size + 1; omega)) (by show w.heap.size ≤ w.heap.size + 1; omega)) (by show w.heap.size ≤ w.heap.size + 1; omega)⟩
end Go.Proofs.Ytgiofigjnchfeaa.Q

namespace Go.Proofs.Ytgiofigjnchfeaa.Q
open Go.RowKit Go.Proofs.YtgiofigjnchfeaaW.PrintWords Go.Proofs.YtgiofigjnchfeaaW.PrintLast Go.Proofs.YtgiofigjnchfeaaW.PrintMore
set_option linter.unusedVariables false
set_option linter.unusedSimpArgs false

set_option maxHeartbeats 16000000 in
set_option maxRecDepth 100000 in
theorem pool_without.calls (A : Option Addr) (c : Nat) (l : List S29) (km : Nat) (cap : Array Value) (p : S29 → Bool) (w : World) (hC : Kd.C k29 w A l.length l) (hl : l.length ≤ 4398046511000)
  (eK : ∀ args w, (callFunc km args).run Try.prog w = .ok (.enter km args) w)
  (hmay : ∀ (X : World) (x : S29), (∀ k, k < w.heap.size → X.heap[k]? = w.heap[k]?) → Calls Try.prog km (#[.agg #[.int .i64 x.f0, .int .i64 x.f1, .int .i64 x.f2, .int .i64 x.f3]] ++ cap) X fun e w' => e = .returned (.bool (p x)) ∧ Below X.heap.size X w') :
  Calls Try.prog 42 #[.slice A l.length c, .func (.func km) #[] cap] w fun e w' => ∃ v1 v2 : Value, e = .returned (.tuple #[v1, v2]) ∧ Kd.R k29 29 w' w.heap.size (fun k_ => some k_ ≠ v2.ownBlock) v1 (l.filter fun x => !p x) ∧ Kd.R k29 29 w' w.heap.size (fun k_ => some k_ ≠ v1.ownBlock) v2 (l.filter p) ∧ Below w.heap.size w w' := by
 have hm : l.length ≤ 9223372036854775807 := hC.2.1
 have hu29 := Try.underlying29
 have HC := Aside0.mk hC
 have HM := Aside0.mk hmay
 have HL := Aside0.mk hl
 clear hC hmay hl
 go_enter Try.func42, Try.ntmps42
 go_wp2
 go_loopg [6, 7, 12] l.length (fun gg v6 v7 v12 wr => ∃ (n : Nat) (L G : List S29), n ≤ l.length ∧ l.length - n ≤ gg ∧ v12 = .int .i64 n ∧ Aside0 (L = (l.take n).filter fun x => !p x) ∧ Aside0 (G = (l.take n).filter p) ∧ Aside0 (L.length ≤ n) ∧ Aside0 (G.length ≤ n) ∧ Aside0 (Below w.heap.size w wr) ∧ Aside0 (Kd.R k29 29 wr w.heap.size (fun k_ => some k_ ≠ (v7 : Value).ownBlock) v6 L) ∧ Aside0 (Kd.R k29 29 wr w.heap.size (fun k_ => some k_ ≠ (v6 : Value).ownBlock) v7 G))
 case atStart => exact ⟨0, [], [], Nat.zero_le _, by omega, rfl, ⟨by simp⟩, ⟨by simp⟩, ⟨by simp⟩, ⟨by simp⟩, ⟨Below.refl _ _⟩, ⟨Kd.R_nil _ _ _ _ _⟩, ⟨Kd.R_nil _ _ _ _ _⟩⟩
 case round =>
  obtain ⟨n, L, G, hn, hg, rfl, HLe, HGe, HLl, HGl, HB, HR6, HR7⟩ := hrel
  by_cases hlt : n < l.length
  ·
   have hltz : (n : Int) < (l.length : Int) := by omega
   obtain ⟨ad, e1, hx0, hx1, hx2, hx3⟩ := at_T29 (Kd.C_below HC.out HB.out) (n : Int) (by omega) hltz
   cases e1
   rw [show rd_T29 l (n : Int) = l[n] by simp [rd_T29, hlt], Int.toNat_natCast] at hx0 hx1 hx2 hx3
   have HT := Aside0.mk (List.take_succ_eq_append_getElem hlt)
   have hne0 : (0 : Int) ≤ (n : Int) := by omega
   generalize l[n] = x at hx0 hx1 hx2 hx3 HT
   cases hq : p x with
   | true =>
    have HF : Aside0 (L = (l.take (n + 1)).filter fun x => !p x) := ⟨by rw [HT.out, List.filter_append, ← HLe.out]; simp [hq]⟩
    have HG : Aside0 (G ++ [x] = (l.take (n + 1)).filter p) := ⟨by rw [HT.out, List.filter_append, ← HGe.out]; simp [hq]⟩
    have HQ := Aside0.mk hq
    clear hq
    go_wp2_with (first
     | (go_at_fn km; refine (HM.out _ x (fun k hk => (Below.heap_alloc _ _ k (Nat.lt_of_lt_of_le hk HB.out.size)).trans (HB.out.block k hk))).mono ?_; rintro e w8 ⟨rfl, hb8⟩; rw [HQ.out]; have hbx := blk_below (blk_new wr _) hb8; have hcd0 : w8.cell? ⟨wr.heap.size, 0, none⟩ = some (.int .i64 x.f0) := (blk_cell hbx 0).trans rfl; have hcd1 : w8.cell? ⟨wr.heap.size, 1, none⟩ = some (.int .i64 x.f1) := (blk_cell hbx 1).trans rfl; have hcd2 : w8.cell? ⟨wr.heap.size, 2, none⟩ = some (.int .i64 x.f2) := (blk_cell hbx 2).trans rfl; have hcd3 : w8.cell? ⟨wr.heap.size, 3, none⟩ = some (.int .i64 x.f3) := (blk_cell hbx 3).trans rfl; have hbb : Below wr.heap.size wr w8 := (below_alloc (Below.refl _ _) _).trans (hb8.mono (by simp)); have HR68 := Aside0.mk (Kd.R_below HR6.out hbb); have HR78 := Aside0.mk (Kd.R_below HR7.out hbb); have HB8 := Aside0.mk (HB.out.trans (hbb.mono HB.out.size)); clear hbx hb8 hbb HR6 HR7 HB)
     | (at_builtin; refine Kd.R_append k29 (w0 := w8) w.heap.size rfl (.tmp 19) (.tmp 21) 23 29 (.agg #[.int .i64 0, .int .i64 0, .int .i64 0, .int .i64 0]) 32 rfl Try.underlying23 info29' rfl (by decide) (by decide) u7 G x [.int .i64 x.f0, .int .i64 x.f1, .int .i64 x.f2, .int .i64 x.f3] (fun k_ => some k_ ≠ (u6 : Value).ownBlock) (fun _ => False) rfl rfl ?aP (fun _ hk => hk.elim) ?aF ?aO ?aB ?aS ?aL ?_; (case aP => exact k29_mkM _ _ _ x); (case aF => exact Kd.fresh' (Kd.R_lt HR68.out)); (case aO => exact HR78.out); (case aB => exact Below.refl _ _); (case aS => exact HB8.out.size); (case aL => have := HGl.out; have := HL.out; omega); intro v9 w9 ho hb hg hat; have HRo := Aside0.mk (Kd.R_after (ok := fun _ => True) (Kd.R_mono HR68.out (fun _ hk => ⟨trivial, hk⟩)) hg hat); have HRm := Aside0.mk ho; have HB9 := Aside0.mk (HB8.out.trans hb); clear ho hb hg hat HR68 HR78 HB8))
    go_roundg (l.length - (n + 1))
    case measure => omega
    case rel => exact ⟨n + 1, L, G ++ [x], by omega, Nat.le_refl _, by go_num, HF, HG, ⟨by have := HLl.out; simp; omega⟩, ⟨by have := HGl.out; simp; omega⟩, HB9, ⟨Kd.R_mono HRo.out (fun _ hk => hk.2)⟩, ⟨HRm.out⟩⟩
   | false =>
    have HF : Aside0 (L ++ [x] = (l.take (n + 1)).filter fun x => !p x) := ⟨by rw [HT.out, List.filter_append, ← HLe.out]; simp [hq]⟩
    have HG : Aside0 (G = (l.take (n + 1)).filter p) := ⟨by rw [HT.out, List.filter_append, ← HGe.out]; simp [hq]⟩
    have HQ := Aside0.mk hq
    clear hq
    go_wp2_with (first
     | (go_at_fn km; refine (HM.out _ x (fun k hk => (Below.heap_alloc _ _ k (Nat.lt_of_lt_of_le hk HB.out.size)).trans (HB.out.block k hk))).mono ?_; rintro e w8 ⟨rfl, hb8⟩; rw [HQ.out]; have hbx := blk_below (blk_new wr _) hb8; have hcd0 : w8.cell? ⟨wr.heap.size, 0, none⟩ = some (.int .i64 x.f0) := (blk_cell hbx 0).trans rfl; have hcd1 : w8.cell? ⟨wr.heap.size, 1, none⟩ = some (.int .i64 x.f1) := (blk_cell hbx 1).trans rfl; have hcd2 : w8.cell? ⟨wr.heap.size, 2, none⟩ = some (.int .i64 x.f2) := (blk_cell hbx 2).trans rfl; have hcd3 : w8.cell? ⟨wr.heap.size, 3, none⟩ = some (.int .i64 x.f3) := (blk_cell hbx 3).trans rfl; have hbb : Below wr.heap.size wr w8 := (below_alloc (Below.refl _ _) _).trans (hb8.mono (by simp)); have HR68 := Aside0.mk (Kd.R_below HR6.out hbb); have HR78 := Aside0.mk (Kd.R_below HR7.out hbb); have HB8 := Aside0.mk (HB.out.trans (hbb.mono HB.out.size)); clear hbx hb8 hbb HR6 HR7 HB)
     | (at_builtin; refine Kd.R_append k29 (w0 := w8) w.heap.size rfl (.tmp 23) (.tmp 25) 23 29 (.agg #[.int .i64 0, .int .i64 0, .int .i64 0, .int .i64 0]) 32 rfl Try.underlying23 info29' rfl (by decide) (by decide) u6 L x [.int .i64 x.f0, .int .i64 x.f1, .int .i64 x.f2, .int .i64 x.f3] (fun k_ => some k_ ≠ (u7 : Value).ownBlock) (fun _ => False) rfl rfl ?aP (fun _ hk => hk.elim) ?aF ?aO ?aB ?aS ?aL ?_; (case aP => exact k29_mkM _ _ _ x); (case aF => exact Kd.fresh' (Kd.R_lt HR78.out)); (case aO => exact HR68.out); (case aB => exact Below.refl _ _); (case aS => exact HB8.out.size); (case aL => have := HLl.out; have := HL.out; omega); intro v9 w9 ho hb hg hat; have HRo := Aside0.mk (Kd.R_after (ok := fun _ => True) (Kd.R_mono HR78.out (fun _ hk => ⟨trivial, hk⟩)) hg hat); have HRm := Aside0.mk ho; have HB9 := Aside0.mk (HB8.out.trans hb); clear ho hb hg hat HR68 HR78 HB8))
    go_roundg (l.length - (n + 1))
    case measure => omega
    case rel => exact ⟨n + 1, L ++ [x], G, by omega, Nat.le_refl _, by go_num, HF, HG, ⟨by have := HLl.out; simp; omega⟩, ⟨by have := HGl.out; simp; omega⟩, HB9, ⟨HRm.out⟩, ⟨Kd.R_mono HRo.out (fun _ hk => hk.2)⟩⟩
  ·
   have hltz : ¬ (n : Int) < (l.length : Int) := by omega
   obtain rfl : n = l.length := by omega
   go_wp2
   go_ret2
   have e1 := HLe.out
   have e2 := HGe.out
   rw [List.take_length] at e1 e2
   rw [← e1, ← e2]
   exact ⟨_, _, rfl, HR6.out, HR7.out, HB.out⟩
end Go.Proofs.Ytgiofigjnchfeaa.Q

namespace Go.Proofs.Ytgiofigjnchfeaa.Q
open Go.RowKit Go.Proofs.YtgiofigjnchfeaaW.PrintWords Go.Proofs.YtgiofigjnchfeaaW.PrintLast Go.Proofs.YtgiofigjnchfeaaW.PrintMore
set_option linter.unusedVariables false
set_option linter.unusedSimpArgs false

theorem blk_put' {w : World} {g : Nat} {cs : Array Value} {t : TypeId} (hb : w.heap[g]? = some (.cells cs t (0, 0))) (j : Nat) (u : Value) : (w.setCell ⟨g, j, none⟩ u).heap[g]? = some (.cells (cs.setIfInBounds j u) t (0, 0)) := blk_put hb j u rfl
theorem R_set2 {α : Type} {d : Kd α} {e base : Nat} {ok : Nat → Prop} {w : World} {v : Value} {xs : List α} (h : d.R e w base ok v xs) {g t : Nat} {cells : Array Value} (hb : w.heap[g]? = some (.cells cells t (0, 0))) (ht : ∀ q, q ∈ e :: d.E → q ≠ t) (j : Nat) (u : Value) (j' : Nat) (u' : Value) : d.R e ((w.setCell ⟨g, j, none⟩ u).setCell ⟨g, j', none⟩ u') base ok v xs :=
 Kd.R_set (Kd.R_set h hb ht j u) (blk_put' hb j u) ht j' u'

def clP (c ch : Int) (s : S29) : Bool := (s.f0 == c && s.f1 == ch) && s.f2 == 3
def pool_Clean.f (l0_0 : List Int) (l0_1 : List S29) (a1 a2 : Int) : Option (List Int × List S29 × Int) :=
 if l0_1.length ≤ 4398046511000 then (if (l0_1.filter (clP a1 a2)).length = 0 then some (l0_0, l0_1, 11) else some (l0_0, l0_1.filter (fun x => !clP a1 a2 x), 0)) else none

set_option maxHeartbeats 8000000 in
set_option maxRecDepth 100000 in
theorem pool_Clean.calls (P0 : Nat → Prop) (A0 : Option Addr) (c0 : Nat) (l0_0 : List Int) (P1 : Nat → Prop) (A : Option Addr) (c : Nat) (l : List S29) (a1 a2 : Int) (r1 : List Int) (r2 : List S29) (r3 : Int) (w : World) (hs0 : Kd.V (Kd.int .i64) 3 w w.heap.size (fun k_ => P0 k_) (.slice A0 l0_0.length c0) l0_0) (hs1 : Kd.V k29 29 w w.heap.size (fun k_ => P1 k_) (.slice A l.length c) l) (h : pool_Clean.f l0_0 l a1 a2 = some (r1, r2, r3)) :
  Calls Try.prog 19 #[.agg #[.slice A0 l0_0.length c0, .slice A l.length c], .int .i64 a1, .int .i64 a2] w fun e w' => ∃ v0_ v1_ : Value, e = .returned (.tuple #[.agg #[v0_, v1_], .int .i64 r3]) ∧ Kd.V (Kd.int .i64) 3 w' w.heap.size (fun k_ => ((P0 k_ ∨ P1 k_) ∨ w.heap.size ≤ k_)) v0_ r1 ∧ Kd.V k29 29 w' w.heap.size (fun k_ => ((P0 k_ ∨ P1 k_) ∨ w.heap.size ≤ k_)) v1_ r2 ∧ Below w.heap.size w w' := by
 have hu25 := Try.underlying25
 have hl : l.length ≤ 4398046511000 := by
  unfold pool_Clean.f at h
  by_cases hh : l.length ≤ 4398046511000
  ·
   exact hh
  ·
   rw [if_neg hh] at h; cases h
 unfold pool_Clean.f at h
 rw [if_pos hl] at h
 have HS0 := Aside0.mk hs0
 have HS1 := Aside0.mk hs1
 have hC : Kd.C k29 w A l.length l := (Kd.V_reads' hs1).2.2
 generalize l0_0.length = n0 at *
 have HI := Aside0.mk (pool_without.calls A c l 47 #[.pointer (some ⟨w.heap.size + 1, 0, none⟩), .pointer (some ⟨w.heap.size + 1 + 1, 0, none⟩)] (clP a1 a2) ((((w.alloc (.cells #[.slice A0 n0 c0, .slice A l.length c] 25)).alloc (.cells #[.int .i64 a1] 3)).alloc (.cells #[.int .i64 a2] 3)).alloc (.cells #[.slice none 0 0, .slice none 0 0] 25)) (Kd.C_alloc (Kd.C_alloc (Kd.C_alloc (Kd.C_alloc hC _) _) _) _) hl eK47
  (fun X x hX => by
   have e1 : X.heap[w.heap.size + 1]? = some (.cells #[.int .i64 a1] 3 (0, 0)) := (hX _ (by simp)).trans (blk_alloc (blk_alloc (by simpa using blk_new (w.alloc (.cells #[.slice A0 n0 c0, .slice A l.length c] 25)) (.cells #[.int .i64 a1] 3)) _) _)
   have e2 : X.heap[w.heap.size + 1 + 1]? = some (.cells #[.int .i64 a2] 3 (0, 0)) := (hX _ (by simp)).trans (blk_alloc (by simpa using blk_new ((w.alloc (.cells #[.slice A0 n0 c0, .slice A l.length c] 25)).alloc (.cells #[.int .i64 a1] 3)) (.cells #[.int .i64 a2] 3)) _)
   exact Clean1.calls x.f0 x.f1 x.f2 x.f3 a1 a2 _ _ X ((blk_cell e1 0).trans rfl) (blk_lt e1) ((blk_cell e2 0).trans rfl) (blk_lt e2)))
 obtain ⟨B, hB⟩ : ∃ B, B = w.heap.size + 1 + 1 + 1 := ⟨_, rfl⟩
 have HBK : Aside0 (((((w.alloc (.cells #[.slice A0 n0 c0, .slice A l.length c] 25)).alloc (.cells #[.int .i64 a1] 3)).alloc (.cells #[.int .i64 a2] 3)).alloc (.cells #[.slice none 0 0, .slice none 0 0] 25)).heap[w.heap.size]? = some (.cells #[.slice A0 n0 c0, .slice A l.length c] 25 (0, 0))) := ⟨blk_alloc (blk_alloc (blk_alloc (blk_new _ _) _) _) _⟩
 have HBR : Aside0 (((((w.alloc (.cells #[.slice A0 n0 c0, .slice A l.length c] 25)).alloc (.cells #[.int .i64 a1] 3)).alloc (.cells #[.int .i64 a2] 3)).alloc (.cells #[.slice none 0 0, .slice none 0 0] 25)).heap[w.heap.size + 1 + 1 + 1]? = some (.cells #[.slice none 0 0, .slice none 0 0] 25 (0, 0))) := ⟨by simpa using blk_new (((w.alloc (.cells #[.slice A0 n0 c0, .slice A l.length c] 25)).alloc (.cells #[.int .i64 a1] 3)).alloc (.cells #[.int .i64 a2] 3)) (.cells #[.slice none 0 0, .slice none 0 0] 25)⟩
 have HB3 : Aside0 (Below w.heap.size w ((((w.alloc (.cells #[.slice A0 n0 c0, .slice A l.length c] 25)).alloc (.cells #[.int .i64 a1] 3)).alloc (.cells #[.int .i64 a2] 3)).alloc (.cells #[.slice none 0 0, .slice none 0 0] 25))) := ⟨below_alloc (below_alloc (below_alloc (below_alloc (Below.refl _ _) _) _) _) _⟩
 have hne : w.heap.size ≠ w.heap.size + 1 + 1 + 1 := by omega
 have hge : w.heap.size ≤ w.heap.size + 1 + 1 + 1 := by omega
 have HGE := Aside0.mk hge
 clear hs0 hs1 hC hge hB
 obtain ⟨G, hG⟩ : ∃ G, l.filter (clP a1 a2) = G := ⟨_, rfl⟩
 obtain ⟨L, hL⟩ : ∃ L, l.filter (fun x => !clP a1 a2 x) = L := ⟨_, rfl⟩
 rw [hG, hL] at HI
 rw [hG, hL] at h
 clear hG hL
 by_cases c1 : G.length = 0
 ·
  rw [if_pos c1] at h
  simp only [Option.some.injEq, Prod.mk.injEq] at h
  obtain ⟨rfl, rfl, rfl⟩ := h
  have q0 : ((G.length : Int) == 0) = true := by simp [c1]
  have HQ0 := Aside0.mk q0
  clear q0 c1
  go_enter Try.func19, Try.ntmps19
  go_wp2_with (go_at_call 42; refine HI.out.mono ?_; rintro e w4 ⟨v1, v2, rfl, hR1, hR2, hb⟩; obtain ⟨A2, c2, rfl⟩ := Kd.R_slice hR2; have q0 := HQ0.out; have bk3 := blk_below HBR.out hb; have hd0 : w4.cell? ⟨w.heap.size + 1 + 1 + 1, 0, none⟩ = some (.slice none 0 0) := (blk_cell bk3 0).trans rfl; have hd1 : w4.cell? ⟨w.heap.size + 1 + 1 + 1, 1, none⟩ = some (.slice none 0 0) := (blk_cell bk3 1).trans rfl; have hfz := fun j => blk_frozen bk3 j; have BK3 := Aside0.mk bk3; have bk1 := blk_below HBK.out hb; have hp0 : w4.cell? ⟨w.heap.size, 0, none⟩ = some (.slice A0 n0 c0) := (blk_cell bk1 0).trans rfl; have hp1 : w4.cell? ⟨w.heap.size, 1, none⟩ = some (.slice A l.length c) := (blk_cell bk1 1).trans rfl; have HB := Aside0.mk (HB3.out.trans (hb.mono HB3.out.size)); clear hb bk3 bk1 hR1 hR2)
  refine bodyPost_ret (results_ct rfl _ _ (w.heap.size + 1 + 1 + 1) 25 #[.slice A0 n0 c0, .slice A l.length c] (0, 0) _ rfl (by refine blk_put (cs := #[.slice A0 n0 c0, .slice none 0 0]) ?_ 1 _ rfl; refine blk_put (cs := #[.slice none 0 0, .slice none 0 0]) ?_ 0 _ rfl; exact BK3.out) Try.underlying25 rfl (by kernel_rfl)) rfl ?_
  have HBF : Below w.heap.size w _ := below_set (below_set HB.out (g := w.heap.size + 1 + 1 + 1) (j := 0) (v := .slice A0 n0 c0) HGE.out) (g := w.heap.size + 1 + 1 + 1) (j := 1) (v := .slice A l.length c) HGE.out
  exact ⟨_, _, rfl, Kd.V_mono (Kd.V_below HS0.out HBF) (fun k hk => Or.inl (Or.inl hk)), Kd.V_mono (Kd.V_below HS1.out HBF) (fun k hk => Or.inl (Or.inr hk)), HBF⟩
 ·
  rw [if_neg c1] at h
  simp only [Option.some.injEq, Prod.mk.injEq] at h
  obtain ⟨rfl, rfl, rfl⟩ := h
  have q0 : ((G.length : Int) == 0) = false := by simp [c1]
  have HQ0 := Aside0.mk q0
  clear q0 c1
  go_enter Try.func19, Try.ntmps19
  go_wp2_with (first
   | (go_at_call 42; refine HI.out.mono ?_; rintro e w4 ⟨v1, v2, rfl, hR1, hR2, hb⟩; obtain ⟨A1, c1, rfl⟩ := Kd.R_slice hR1; obtain ⟨A2, c2, rfl⟩ := Kd.R_slice hR2; have q0 := HQ0.out; have bk3 := blk_below HBR.out hb; have BK3 := Aside0.mk bk3; have bk1 := blk_below HBK.out hb; have BK1 := Aside0.mk bk1; have hp1 : w4.cell? ⟨w.heap.size, 1, none⟩ = some (.slice A l.length c) := (blk_cell bk1 1).trans rfl; have hfp := fun j => blk_frozen bk1 j; have HB := Aside0.mk (HB3.out.trans (hb.mono HB3.out.size)); have HR1 := Aside0.mk hR1; clear hb bk3 bk1 hR1 hR2)
   | ((with_reducible refine gate_store (t := 23) (p := 22) rfl ?_); refine store_event (t := 23) (p := 22) (v := ?vo_w31) (w1 := (w4.setCell ⟨w.heap.size, 1, none⟩ (.slice A1 L.length c1))) ?hg ?ho ?hn ?hr ?_; (case ho => rfl); (case hg => rfl); (case hn => rfl); (case hr => first | (go_simp; done) | (go_simp; rfl)); intro w5 hw; have HB5 : Aside0 (Below w.heap.size w w5) := ⟨by rw [hw]; exact below_set HB.out (Nat.le_refl _)⟩; have HR5 : Aside0 (Kd.R k29 29 w5 w.heap.size (fun _ => True) (.slice A1 L.length c1) L) := ⟨by rw [hw]; exact Kd.R_lower (Kd.R_mono (Kd.R_set HR1.out BK1.out (by decide) 1 _) (fun _ _ => trivial)) HB3.out.size⟩; have bk1 : w5.heap[w.heap.size]? = some (.cells #[.slice A0 n0 c0, .slice A1 L.length c1] 25 (0, 0)) := (by rw [hw]; exact blk_put BK1.out 1 _ rfl); have bk3 : w5.heap[w.heap.size + 1 + 1 + 1]? = some (.cells #[.slice none 0 0, .slice none 0 0] 25 (0, 0)) := (by rw [hw]; exact blk_far BK3.out hne.symm _); clear hw hp1 hfp; have hp0 : w5.cell? ⟨w.heap.size, 0, none⟩ = some (.slice A0 n0 c0) := (blk_cell bk1 0).trans rfl; have hp1 : w5.cell? ⟨w.heap.size, 1, none⟩ = some (.slice A1 L.length c1) := (blk_cell bk1 1).trans rfl; have hd0 : w5.cell? ⟨w.heap.size + 1 + 1 + 1, 0, none⟩ = some (.slice none 0 0) := (blk_cell bk3 0).trans rfl; have hd1 : w5.cell? ⟨w.heap.size + 1 + 1 + 1, 1, none⟩ = some (.slice none 0 0) := (blk_cell bk3 1).trans rfl; have hfz := fun j => blk_frozen bk3 j; have BK5 := Aside0.mk bk3; clear bk1 bk3))
  refine bodyPost_ret (results_ct rfl _ _ (w.heap.size + 1 + 1 + 1) 25 #[.slice A0 n0 c0, .slice A1 L.length c1] (0, 0) _ rfl (by refine blk_put (cs := #[.slice A0 n0 c0, .slice none 0 0]) ?_ 1 _ rfl; refine blk_put (cs := #[.slice none 0 0, .slice none 0 0]) ?_ 0 _ rfl; exact BK5.out) Try.underlying25 rfl (by kernel_rfl)) rfl ?_
  have HBF : Below w.heap.size w _ := below_set (below_set HB5.out (g := w.heap.size + 1 + 1 + 1) (j := 0) (v := .slice A0 n0 c0) HGE.out) (g := w.heap.size + 1 + 1 + 1) (j := 1) (v := .slice A1 L.length c1) HGE.out
  exact ⟨_, _, rfl, Kd.V_mono (Kd.V_below HS0.out HBF) (fun k hk => Or.inl (Or.inl hk)), Kd.V_mono (Kd.R_V (Kd.R_bound (R_set2 HR5.out BK5.out (by decide) _ _ _ _))) (fun k hk => Or.inr hk.2.1), HBF⟩
end Go.Proofs.Ytgiofigjnchfeaa.Q

namespace Go.Proofs.Ytgiofigjnchfeaa.Q
open Go.RowKit Go.Proofs.YtgiofigjnchfeaaW.PrintWords Go.Proofs.YtgiofigjnchfeaaW.PrintLast Go.Proofs.YtgiofigjnchfeaaW.PrintMore
set_option linter.unusedVariables false
set_option linter.unusedSimpArgs false

def dnP (c : Int) (s : S29) : Bool := s.f0 == c
def pool_Down.f (l0_0 : List Int) (l0_1 : List S29) (a1 : Int) : Option (List Int × List S29 × List Int) :=
 if a1 < 0 then some (l0_0, l0_1, []) else
 if (l0_0.length : Int) ≤ a1 then some (l0_0, l0_1, []) else
 if l0_1.length ≤ 4398046511000 then (if l0_0.length ≤ 17592186044416 then some (l0_0.set a1.toNat 0, l0_1.filter (fun x => !dnP a1 x), ((l0_1.filter (dnP a1)).map (·.f3)).filter (fun y => y != 0)) else none) else none

set_option maxHeartbeats 16000000 in
set_option maxRecDepth 100000 in
theorem pool_Down.calls (P0 : Nat → Prop) (A0 : Option Addr) (c0 : Nat) (l0_0 : List Int) (P1 : Nat → Prop) (A : Option Addr) (c : Nat) (l : List S29) (a1 : Int) (r1 : List Int) (r2 : List S29) (r3 : List Int) (w : World) (hs0 : Kd.V (Kd.int .i64) 3 w w.heap.size (fun k_ => P0 k_) (.slice A0 l0_0.length c0) l0_0) (hs1 : Kd.V k29 29 w w.heap.size (fun k_ => P1 k_) (.slice A l.length c) l) (h : pool_Down.f l0_0 l a1 = some (r1, r2, r3)) :
  Calls Try.prog 17 #[.agg #[.slice A0 l0_0.length c0, .slice A l.length c], .int .i64 a1] w fun e w' => ∃ v0_ v1_ v2_ : Value, e = .returned (.tuple #[.agg #[v0_, v1_], v2_]) ∧ Kd.V (Kd.int .i64) 3 w' w.heap.size (fun k_ => ((P0 k_ ∨ P1 k_) ∨ w.heap.size ≤ k_) ∧ some k_ ≠ (v2_ : Value).ownBlock) v0_ r1 ∧ Kd.V k29 29 w' w.heap.size (fun k_ => ((P0 k_ ∨ P1 k_) ∨ w.heap.size ≤ k_) ∧ some k_ ≠ (v2_ : Value).ownBlock) v1_ r2 ∧ Kd.R (Kd.int .i64) 3 w' w.heap.size (fun k_ => (w.heap.size ≤ k_)) v2_ r3 ∧ Below w.heap.size w w' := by
 have hu25 := Try.underlying25
 have hu29 := Try.underlying29
 have HS0 := Aside0.mk hs0
 have HS1 := Aside0.mk hs1
 have hgeE : w.heap.size ≤ w.heap.size + 1 + 1 := by omega
 have HGE := Aside0.mk hgeE
 by_cases hin : a1 < 0 ∨ (l0_0.length : Int) ≤ a1
 ·
  have hr : l0_0 = r1 ∧ l = r2 ∧ ([] : List Int) = r3 := by
   unfold pool_Down.f at h
   rcases hin with hi | hi
   ·
    rw [if_pos hi] at h
    simpa using h
   ·
    by_cases h0 : a1 < 0
    ·
     rw [if_pos h0] at h; simpa using h
    ·
     rw [if_neg h0, if_pos hi] at h; simpa using h
  obtain ⟨rfl, rfl, rfl⟩ := hr
  clear h hs0 hs1 hgeE
  generalize l0_0.length = n0 at *
  generalize l.length = n1 at *
  have HBR : Aside0 ((((w.alloc (.cells #[.slice A0 n0 c0, .slice A n1 c] 25)).alloc (.cells #[.int .i64 a1] 3)).alloc (.cells #[.slice A0 n0 c0, .slice A n1 c] 25)).heap[w.heap.size + 1 + 1]? = some (.cells #[.slice A0 n0 c0, .slice A n1 c] 25 (0, 0))) := ⟨by simpa using blk_new ((w.alloc (.cells #[.slice A0 n0 c0, .slice A n1 c] 25)).alloc (.cells #[.int .i64 a1] 3)) (.cells #[.slice A0 n0 c0, .slice A n1 c] 25)⟩
  have HBF : Aside0 (Below w.heap.size w (((w.alloc (.cells #[.slice A0 n0 c0, .slice A n1 c] 25)).alloc (.cells #[.int .i64 a1] 3)).alloc (.cells #[.slice A0 n0 c0, .slice A n1 c] 25))) := ⟨below_alloc (below_alloc (below_alloc (Below.refl _ _) _) _) _⟩
  by_cases hlt : a1 < 0
  ·
   have hltb := decide_eq_true hlt
   clear hin
   go_enter Try.func17, Try.ntmps17
   go_wp2
   refine bodyPost_ret (results_ct rfl _ _ (w.heap.size + 1 + 1) 25 #[.slice A0 n0 c0, .slice A n1 c] (0, 0) _ rfl HBR.out Try.underlying25 rfl (by kernel_rfl)) rfl ?_
   exact ⟨_, _, _, rfl, Kd.V_mono (Kd.V_below HS0.out HBF.out) (fun k hk => ⟨Or.inl (Or.inl hk), by simp [Value.ownBlock]⟩), Kd.V_mono (Kd.V_below HS1.out HBF.out) (fun k hk => ⟨Or.inl (Or.inr hk), by simp [Value.ownBlock]⟩), Kd.R_nil _ _ _ _ _, HBF.out⟩
  ·
   have hge2 : a1 ≥ (n0 : Int) := by omega
   clear hin
   go_enter Try.func17, Try.ntmps17
   go_wp2
   refine bodyPost_ret (results_ct rfl _ _ (w.heap.size + 1 + 1) 25 #[.slice A0 n0 c0, .slice A n1 c] (0, 0) _ rfl HBR.out Try.underlying25 rfl (by kernel_rfl)) rfl ?_
   exact ⟨_, _, _, rfl, Kd.V_mono (Kd.V_below HS0.out HBF.out) (fun k hk => ⟨Or.inl (Or.inl hk), by simp [Value.ownBlock]⟩), Kd.V_mono (Kd.V_below HS1.out HBF.out) (fun k hk => ⟨Or.inl (Or.inr hk), by simp [Value.ownBlock]⟩), Kd.R_nil _ _ _ _ _, HBF.out⟩
 ·
  have hlo : ¬ a1 < 0 := by omega
  have hhi : ¬ (l0_0.length : Int) ≤ a1 := by omega
  unfold pool_Down.f at h
  rw [if_neg hlo, if_neg hhi] at h
  have hl : l.length ≤ 4398046511000 := by
   by_cases hh : l.length ≤ 4398046511000
   ·
    exact hh
   ·
    rw [if_neg hh] at h; cases h
  have hM : l0_0.length ≤ 17592186044416 := by
   by_cases hh : l0_0.length ≤ 17592186044416
   ·
    exact hh
   ·
    rw [if_pos hl, if_neg hh] at h; cases h
  rw [if_pos hl, if_pos hM] at h
  simp only [Option.some.injEq, Prod.mk.injEq] at h
  obtain ⟨rfl, rfl, rfl⟩ := h
  have hC : Kd.C k29 w A l.length l := (Kd.V_reads' hs1).2.2
  have hCM : Kd.C (Kd.int .i64) w A0 l0_0.length l0_0 := (Kd.V_reads' hs0).2.2
  have hcM : l0_0.length ≤ c0 := (Kd.V_reads' hs0).2.1
  have HCL : Aside0 (∀ W, Below w.heap.size w W → Calls Try.prog 44 #[.slice A0 l0_0.length c0] W fun e w' => ∃ v : Value, e = .returned v ∧ Kd.R (Kd.int .i64) 3 w' W.heap.size (fun _ => True) v l0_0 ∧ Below W.heap.size W w') := ⟨fun W hW => slices_Clone_int_int.calls A0 c0 l0_0 l0_0 W (Kd.C_below hCM hW) hcM (by unfold slices_Clone_int_int.f; rw [if_pos hM])⟩
  have HI := Aside0.mk (pool_without.calls A c l 43 #[.pointer (some ⟨w.heap.size + 1, 0, none⟩)] (dnP a1) (((w.alloc (.cells #[.slice A0 l0_0.length c0, .slice A l.length c] 25)).alloc (.cells #[.int .i64 a1] 3)).alloc (.cells #[.slice none 0 0, .slice none 0 0] 25)) (Kd.C_alloc (Kd.C_alloc (Kd.C_alloc hC _) _) _) hl eK43
   (fun X x hX => by
    have e1 : X.heap[w.heap.size + 1]? = some (.cells #[.int .i64 a1] 3 (0, 0)) := (hX _ (by simp)).trans (blk_alloc (by simpa using blk_new (w.alloc (.cells #[.slice A0 l0_0.length c0, .slice A l.length c] 25)) (.cells #[.int .i64 a1] 3)) _)
    exact Down1.calls x.f0 x.f1 x.f2 x.f3 a1 _ X ((blk_cell e1 0).trans rfl) (blk_lt e1)))
  have hG0 : (l.filter (dnP a1)).length ≤ l.length := List.length_filter_le _ _
  obtain ⟨G, hG⟩ : ∃ G, l.filter (dnP a1) = G := ⟨_, rfl⟩
  obtain ⟨L, hL⟩ : ∃ L, l.filter (fun x => !dnP a1 x) = L := ⟨_, rfl⟩
  rw [hG] at hG0
  rw [hG, hL] at HI ⊢
  have HGL : Aside0 (G.length ≤ 4398046511000) := ⟨Nat.le_trans hG0 hl⟩
  have HPOS : Aside0 (0 < l0_0.length) := ⟨by omega⟩
  have hm : l0_0.length ≤ 9223372036854775807 := by omega
  generalize hn1 : l.length = n1 at *
  have HBK : Aside0 ((((w.alloc (.cells #[.slice A0 l0_0.length c0, .slice A n1 c] 25)).alloc (.cells #[.int .i64 a1] 3)).alloc (.cells #[.slice none 0 0, .slice none 0 0] 25)).heap[w.heap.size]? = some (.cells #[.slice A0 l0_0.length c0, .slice A n1 c] 25 (0, 0))) := ⟨blk_alloc (blk_alloc (blk_new _ _) _) _⟩
  have HBI : Aside0 ((((w.alloc (.cells #[.slice A0 l0_0.length c0, .slice A n1 c] 25)).alloc (.cells #[.int .i64 a1] 3)).alloc (.cells #[.slice none 0 0, .slice none 0 0] 25)).heap[w.heap.size + 1]? = some (.cells #[.int .i64 a1] 3 (0, 0))) := ⟨blk_alloc (by simpa using blk_new (w.alloc (.cells #[.slice A0 l0_0.length c0, .slice A n1 c] 25)) (.cells #[.int .i64 a1] 3)) _⟩
  have HBR : Aside0 ((((w.alloc (.cells #[.slice A0 l0_0.length c0, .slice A n1 c] 25)).alloc (.cells #[.int .i64 a1] 3)).alloc (.cells #[.slice none 0 0, .slice none 0 0] 25)).heap[w.heap.size + 1 + 1]? = some (.cells #[.slice none 0 0, .slice none 0 0] 25 (0, 0))) := ⟨by simpa using blk_new ((w.alloc (.cells #[.slice A0 l0_0.length c0, .slice A n1 c] 25)).alloc (.cells #[.int .i64 a1] 3)) (.cells #[.slice none 0 0, .slice none 0 0] 25)⟩
  have HB3 : Aside0 (Below w.heap.size w (((w.alloc (.cells #[.slice A0 l0_0.length c0, .slice A n1 c] 25)).alloc (.cells #[.int .i64 a1] 3)).alloc (.cells #[.slice none 0 0, .slice none 0 0] 25))) := ⟨below_alloc (below_alloc (below_alloc (Below.refl _ _) _) _) _⟩
  have hne01 : w.heap.size ≠ w.heap.size + 1 := by omega
  have hne02 : w.heap.size ≠ w.heap.size + 1 + 1 := by omega
  have p25 : (0 : Int) ≤ a1 := by omega
  have q25 : a1 < (l0_0.length : Int) := by omega
  have hlob := decide_eq_false hlo
  have hhib := decide_eq_false hhi
  have HPQ := Aside0.mk (And.intro p25 q25)
  clear hs0 hs1 hC hCM hcM hin hgeE hl hM hG0 hG hL
  go_enter Try.func17, Try.ntmps17
  go_wp2_with (first
   | (go_at_call 42; refine HI.out.mono ?_; rintro e w4 ⟨v1, v2, rfl, hR1, hR2, hb⟩; obtain ⟨AL, cL, rfl⟩ := Kd.R_slice hR1; obtain ⟨AG, cG, rfl⟩ := Kd.R_slice hR2; have HRL := Aside0.mk (Kd.R_mono (ok' := fun _ => True) (Kd.R_lower hR1 HB3.out.size) (fun _ _ => trivial)); have HRG := Aside0.mk (Kd.R_mono (ok' := fun _ => True) (Kd.R_lower hR2 HB3.out.size) (fun _ _ => trivial)); have BK0 := Aside0.mk (blk_below HBK.out hb); have BK1 := Aside0.mk (blk_below HBI.out hb); have BK2 := Aside0.mk (blk_below HBR.out hb); have hp0 : w4.cell? ⟨w.heap.size, 0, none⟩ = some (.slice A0 l0_0.length c0) := (blk_cell BK0.out 0).trans rfl; have HB := Aside0.mk (HB3.out.trans (hb.mono HB3.out.size)); clear hb hR1 hR2)
   | (go_at_call 44; refine (HCL.out _ HB.out).mono ?_; rintro e w5 ⟨vM, rfl, hRM, hb⟩; obtain ⟨AM, cM, rfl⟩ := Kd.R_slice hRM; have HRM := Aside0.mk (Kd.R_lower hRM HB.out.size); have nL := Aside0.mk (Kd.R_below HRL.out hb); have nG := Aside0.mk (Kd.R_below HRG.out hb); have n0 := Aside0.mk (blk_below BK0.out hb); have n1 := Aside0.mk (blk_below BK1.out hb); have n2 := Aside0.mk (blk_below BK2.out hb); have nB := Aside0.mk (HB.out.trans (hb.mono HB.out.size)); clear HRL HRG BK0 BK1 BK2 HB hb hRM hp0; have HRL := nL; have HRG := nG; have BK0 := n0; have BK1 := n1; have BK2 := n2; have HB := nB; clear nL nG n0 n1 n2 nB; have hp1 : w5.cell? ⟨w.heap.size, 1, none⟩ = some (.slice A n1 c) := (blk_cell BK0.out 1).trans rfl; have hfp := fun j => blk_frozen BK0.out j)
   | ((with_reducible refine gate_store (t := 23) (p := 32) rfl ?_); refine store_event (t := 23) (p := 32) (v := ?vo_w6) (w1 := (w5.setCell ⟨w.heap.size, 1, none⟩ (.slice AL L.length cL))) ?hg ?ho ?hn ?hr ?_; (case ho => rfl); (case hg => rfl); (case hn => rfl); (case hr => first | (go_simp; done) | (go_simp; rfl)); intro w6 hw; have nM : Aside0 (Kd.R (Kd.int .i64) 3 w6 w.heap.size (fun _ => True) (.slice AM l0_0.length cM) l0_0) := ⟨by rw [hw]; exact Kd.R_set HRM.out BK0.out (by decide) 1 _⟩; have nL : Aside0 (Kd.R k29 29 w6 w.heap.size (fun _ => True) (.slice AL L.length cL) L) := ⟨by rw [hw]; exact Kd.R_set HRL.out BK0.out (by decide) 1 _⟩; have nG : Aside0 (Kd.R k29 29 w6 w.heap.size (fun _ => True) (.slice AG G.length cG) G) := ⟨by rw [hw]; exact Kd.R_set HRG.out BK0.out (by decide) 1 _⟩; have n0 : Aside0 (w6.heap[w.heap.size]? = some (.cells #[.slice A0 l0_0.length c0, .slice AL L.length cL] 25 (0, 0))) := ⟨by rw [hw]; exact blk_put BK0.out 1 _ rfl⟩; have n1 : Aside0 (w6.heap[w.heap.size + 1]? = some (.cells #[.int .i64 a1] 3 (0, 0))) := ⟨by rw [hw]; exact blk_far BK1.out hne01.symm _⟩; have n2 : Aside0 (w6.heap[w.heap.size + 1 + 1]? = some (.cells #[.slice none 0 0, .slice none 0 0] 25 (0, 0))) := ⟨by rw [hw]; exact blk_far BK2.out hne02.symm _⟩; have nB : Aside0 (Below w.heap.size w w6) := ⟨by rw [hw]; exact below_set HB.out (Nat.le_refl _)⟩; clear HRM HRL HRG BK0 BK1 BK2 HB hw hp1 hfp; have HRM := nM; have HRL := nL; have HRG := nG; have BK0 := n0; have BK1 := n1; have BK2 := n2; have HB := nB; clear nM nL nG n0 n1 n2 nB; have hp0 : w6.cell? ⟨w.heap.size, 0, none⟩ = some (.slice A0 l0_0.length c0) := (blk_cell BK0.out 0).trans rfl; have hfp := fun j => blk_frozen BK0.out j)
   | ((with_reducible refine gate_store (t := 22) (p := 33) rfl ?_); refine store_event (t := 22) (p := 33) (v := ?vo_w7) (w1 := (w6.setCell ⟨w.heap.size, 0, none⟩ (.slice AM l0_0.length cM))) ?hg ?ho ?hn ?hr ?_; (case ho => rfl); (case hg => rfl); (case hn => rfl); (case hr => first | (go_simp; done) | (go_simp; rfl)); intro w7 hw; have nM : Aside0 (Kd.R (Kd.int .i64) 3 w7 w.heap.size (fun _ => True) (.slice AM l0_0.length cM) l0_0) := ⟨by rw [hw]; exact Kd.R_set HRM.out BK0.out (by decide) 0 _⟩; have nL : Aside0 (Kd.R k29 29 w7 w.heap.size (fun _ => True) (.slice AL L.length cL) L) := ⟨by rw [hw]; exact Kd.R_set HRL.out BK0.out (by decide) 0 _⟩; have nG : Aside0 (Kd.R k29 29 w7 w.heap.size (fun _ => True) (.slice AG G.length cG) G) := ⟨by rw [hw]; exact Kd.R_set HRG.out BK0.out (by decide) 0 _⟩; have n0 : Aside0 (w7.heap[w.heap.size]? = some (.cells #[.slice AM l0_0.length cM, .slice AL L.length cL] 25 (0, 0))) := ⟨by rw [hw]; exact blk_put BK0.out 0 _ rfl⟩; have n1 : Aside0 (w7.heap[w.heap.size + 1]? = some (.cells #[.int .i64 a1] 3 (0, 0))) := ⟨by rw [hw]; exact blk_far BK1.out hne01.symm _⟩; have n2 : Aside0 (w7.heap[w.heap.size + 1 + 1]? = some (.cells #[.slice none 0 0, .slice none 0 0] 25 (0, 0))) := ⟨by rw [hw]; exact blk_far BK2.out hne02.symm _⟩; have nB : Aside0 (Below w.heap.size w w7) := ⟨by rw [hw]; exact below_set HB.out (Nat.le_refl _)⟩; clear HRM HRL HRG BK0 BK1 BK2 HB hw hp0 hfp; have HRL := nL; have HRG := nG; have BK0 := n0; have BK1 := n1; have BK2 := n2; have HB := nB; clear nL nG n0 n1 n2 nB; obtain ⟨go, cg, ego, gbgo, glgo, HGgo⟩ := Kd.R_form nM.out HPOS.out; cases ego; have HGB := Aside0.mk gbgo; have HRM := nM; clear nM glgo HGgo gbgo; have hp0 : w7.cell? ⟨w.heap.size, 0, none⟩ = some (.slice (some ⟨go, 0, none⟩) l0_0.length cM) := (blk_cell BK0.out 0).trans rfl; have hi0 : w7.cell? ⟨w.heap.size + 1, 0, none⟩ = some (.int .i64 a1) := (blk_cell BK1.out 0).trans rfl; obtain ⟨hx25_0, hf25_0⟩ := Kd.R_celln 0 HRM.out (a1 : Int) HPQ.out.1 HPQ.out.2)
   | ((with_reducible refine gate_store (t := 3) (p := 37) rfl ?_); refine store_event (t := 3) (p := 37) (v := ?vo_w8) (w1 := (w7.setCell ⟨go, (a1 : Int).toNat, none⟩ (.int .i64 0))) ?hg ?ho ?hn ?hr ?_; (case ho => rfl); (case hg => rfl); (case hn => rfl); (case hr => first | (go_simp; done) | (go_simp; rfl)); intro w8 hw; have HP := Kd.R_putg HRM.out (a1 : Int) 0; have hg : w7.grownBy w8 (some go) := (by rw [hw]; exact HP.2); have nM : Aside0 (Kd.R (Kd.int .i64) 3 w8 w.heap.size (fun _ => True) (.slice (some ⟨go, 0, none⟩) l0_0.length cM) (l0_0.set a1.toNat 0)) := ⟨by rw [hw]; exact HP.1⟩; have nL := Aside0.mk (Kd.R_over' HRL.out (Kd.R_typed HRM.out) (by decide) hg); have nG := Aside0.mk (Kd.R_over' HRG.out (Kd.R_typed HRM.out) (by decide) hg); have n0 := Aside0.mk (blk_grown BK0.out hg (Kd.R_ne HRM.out BK0.out (by decide))); have n2 := Aside0.mk (blk_grown BK2.out hg (Kd.R_ne HRM.out BK2.out (by decide))); have nB : Aside0 (Below w.heap.size w w8) := ⟨by rw [hw]; exact below_set HB.out HGB.out⟩; clear HRM HRL HRG BK0 BK1 BK2 HB hw hp0 hi0 hx25_0 hf25_0 HP hg; have HRM := nM; have HRL := nL; have HRG := nG; have BK0 := n0; have BK2 := n2; have HB := nB; clear nM nL nG n0 n2 nB))
  obtain ⟨M', hM'⟩ : ∃ M', M' = l0_0.set a1.toNat 0 := ⟨_, rfl⟩
  have hMl : M'.length = l0_0.length := by rw [hM']; simp
  rw [← hM'] at HRM
  have HMe := Aside0.mk hM'
  have HML := Aside0.mk hMl
  clear hM' hMl hm
  go_loopg [8, 40] (G.length + 1) (fun gg v8 v40 wr => ∃ (i : Nat) (o : List Int), v40 = .int .i64 i ∧ i ≤ G.length ∧ G.length - i < gg ∧ Aside0 (o = ((G.take i).map (·.f3)).filter (fun y => y != 0)) ∧ Aside0 (Kd.R (Kd.int .i64) 3 wr w.heap.size (fun _ => True) v8 o) ∧ Aside0 (Kd.R (Kd.int .i64) 3 wr w.heap.size (fun k_ => some k_ ≠ (v8 : Value).ownBlock) (.slice (some ⟨go, 0, none⟩) l0_0.length cM) M') ∧ Aside0 (Kd.R k29 29 wr w.heap.size (fun _ => True) (.slice AG G.length cG) G) ∧ Aside0 (Kd.R k29 29 wr w.heap.size (fun _ => True) (.slice AL L.length cL) L) ∧ Aside0 (wr.heap[w.heap.size]? = some (.cells #[.slice (some ⟨go, 0, none⟩) l0_0.length cM, .slice AL L.length cL] 25 (0, 0))) ∧ Aside0 (wr.heap[w.heap.size + 1 + 1]? = some (.cells #[.slice none 0 0, .slice none 0 0] 25 (0, 0))) ∧ Aside0 (Below w.heap.size w wr))
  case atStart => exact ⟨0, [], rfl, Nat.zero_le _, by omega, ⟨rfl⟩, ⟨Kd.R_nil _ _ _ _ _⟩, ⟨Kd.R_mono HRM.out (fun k _ => by simp [Value.ownBlock])⟩, HRG, HRL, BK0, BK2, HB⟩
  case round =>
   obtain ⟨i, o, rfl, hi, hig, HO, HRo, HRMr, HRGr, HRLr, BK0r, BK2r, HBr⟩ := hrel
   clear HRM HRL HRG BK0 BK2 HB
   have hgl := HGL.out
   by_cases ci : i < G.length
   ·
    have cz : (i : Int) < (G.length : Int) := by omega
    have cz0 : (0 : Int) ≤ (i : Int) := by omega
    obtain ⟨ad, e1, hx0, hx1, hx2, hx3⟩ := at_T29 (Kd.R_reads' HRGr.out).2.2 (i : Int) cz0 cz
    cases e1
    rw [show rd_T29 G (i : Int) = G[i] by simp [rd_T29, ci], Int.toNat_natCast] at hx0 hx1 hx2 hx3
    have htk : ((G.take (i + 1)).map (·.f3)).filter (fun y => y != 0) = ((G.take i).map (·.f3)).filter (fun y => y != 0) ++ (if G[i].f3 != 0 then [G[i].f3] else []) := by
     rw [List.take_succ_eq_append_getElem ci, List.map_append, List.filter_append]
     by_cases e : G[i].f3 = 0 <;> simp [e]
    have hon : o.length ≤ G.length := by
     rw [HO.out]
     refine Nat.le_trans (List.length_filter_le _ _) ?_
     rw [List.length_map, List.length_take]; omega
    have HLO : Aside0 ((o.length + 1) * 8 ≤ 140737488355328) := ⟨by have := HGL.out; omega⟩
    generalize G[i] = x at hx0 hx1 hx2 hx3 htk
    cases hq : (x.f3 != 0) with
    | true =>
     rw [hq, if_pos rfl] at htk
     have HO2 : Aside0 (o ++ [x.f3] = ((G.take (i + 1)).map (·.f3)).filter (fun y => y != 0)) := ⟨by rw [htk, HO.out]⟩
     clear htk hon
     go_wp2_with (at_builtin; refine Kd.R_append (Kd.int .i64) (w0 := w) w.heap.size rfl (.tmp 47) (.tmp 50) 22 3 (.int .i64 0) 8 rfl Try.underlying22 info3' rfl (by decide) (by decide) u8 o x.f3 [.int .i64 x.f3] (fun _ => True) (fun _ => False) rfl (by rw [World.size_alloc]; rfl) ?aP (fun _ hk => hk.elim) ?aF ?aO ?aB ?aS ?aL ?_; (case aP => exact rfl); (case aF => exact fun _ _ => trivial); (case aO => exact Kd.R_alloc HRo.out _); (case aB => exact below_alloc HBr.out _); (case aS => exact Nat.le_trans HBr.out.size (by simp)); (case aL => exact HLO.out); intro v9 w9 ho hb hg hat; have HRo9 := Aside0.mk ho; have HRG9 := Aside0.mk (Kd.R_over' (Kd.R_alloc HRGr.out _) (Kd.R_typed (Kd.R_alloc HRo.out _)) (by decide) hg); have HRL9 := Aside0.mk (Kd.R_over' (Kd.R_alloc HRLr.out _) (Kd.R_typed (Kd.R_alloc HRo.out _)) (by decide) hg); have HRM9 := Aside0.mk (Kd.R_after (ok := fun _ => True) (Kd.R_mono (Kd.R_alloc HRMr.out _) (fun _ hk => ⟨trivial, hk⟩)) hg hat); have BK09 := Aside0.mk (blk_grown (blk_alloc BK0r.out _) hg (Kd.R_ne HRo.out BK0r.out (by decide))); have BK29 := Aside0.mk (blk_grown (blk_alloc BK2r.out _) hg (Kd.R_ne HRo.out BK2r.out (by decide))); have HB9 := Aside0.mk hb; clear ho hb hg hat HRo HRMr HRGr HRLr BK0r BK2r HBr)
     go_roundg (G.length - i)
     case measure => omega
     case rel => exact ⟨i + 1, _, by go_num, by omega, by omega, HO2, HRo9, ⟨Kd.R_mono HRM9.out (fun _ hk => hk.2)⟩, HRG9, HRL9, BK09, BK29, HB9⟩
    | false =>
     rw [hq, if_neg (by simp)] at htk
     have HO2 : Aside0 (o = ((G.take (i + 1)).map (·.f3)).filter (fun y => y != 0)) := ⟨by rw [htk, List.append_nil]; exact HO.out⟩
     clear htk hon
     go_wp2
     go_roundg (G.length - i)
     case measure => omega
     case rel => exact ⟨i + 1, o, by go_num, by omega, by omega, HO2, ⟨Kd.R_alloc HRo.out _⟩, ⟨Kd.R_alloc HRMr.out _⟩, ⟨Kd.R_alloc HRGr.out _⟩, ⟨Kd.R_alloc HRLr.out _⟩, ⟨blk_alloc BK0r.out _⟩, ⟨blk_alloc BK2r.out _⟩, ⟨below_alloc HBr.out _⟩⟩
   ·
    obtain rfl : i = G.length := by omega
    have cz : ¬ (G.length : Int) < (G.length : Int) := by omega
    have e8 := HO.out
    rw [List.take_length] at e8
    have HE8 := Aside0.mk e8
    clear e8
    have hp0 : wr.cell? ⟨w.heap.size, 0, none⟩ = some (.slice (some ⟨go, 0, none⟩) l0_0.length cM) := (blk_cell BK0r.out 0).trans rfl
    have hp1 : wr.cell? ⟨w.heap.size, 1, none⟩ = some (.slice AL L.length cL) := (blk_cell BK0r.out 1).trans rfl
    have hd0 : wr.cell? ⟨w.heap.size + 1 + 1, 0, none⟩ = some (.slice none 0 0) := (blk_cell BK2r.out 0).trans rfl
    have hd1 : wr.cell? ⟨w.heap.size + 1 + 1, 1, none⟩ = some (.slice none 0 0) := (blk_cell BK2r.out 1).trans rfl
    have hfz := fun j => blk_frozen BK2r.out j
    go_wp2
    refine bodyPost_ret (results_ct rfl _ _ (w.heap.size + 1 + 1) 25 #[.slice (some ⟨go, 0, none⟩) l0_0.length cM, .slice AL L.length cL] (0, 0) _ rfl (by refine blk_put (cs := #[.slice (some ⟨go, 0, none⟩) l0_0.length cM, .slice none 0 0]) ?_ 1 _ rfl; refine blk_put (cs := #[.slice none 0 0, .slice none 0 0]) ?_ 0 _ rfl; exact BK2r.out) Try.underlying25 rfl (by kernel_rfl)) rfl ?_
    rw [← HE8.out, ← HMe.out]
    have HRo2 := R_set2 HRo.out BK2r.out (by decide) 0 (.slice (some ⟨go, 0, none⟩) l0_0.length cM) 1 (.slice AL L.length cL)
    have HRL2 := R_set2 HRLr.out BK2r.out (by decide) 0 (.slice (some ⟨go, 0, none⟩) l0_0.length cM) 1 (.slice AL L.length cL)
    exact ⟨_, _, _, rfl, Kd.V_mono (Kd.R_V (Kd.R_bound (R_set2 HRMr.out BK2r.out (by decide) _ _ _ _))) (fun k hk => ⟨Or.inr hk.2.1, hk.1⟩), Kd.V_mono (Kd.R_V (Kd.R_bound (Kd.R_apartR HRL2 HRo2 (by decide)))) (fun k hk => ⟨Or.inr hk.2.1, hk.1.2⟩), Kd.R_mono (Kd.R_bound HRo2) (fun k hk => hk.2.1), below_set (below_set HBr.out HGE.out) HGE.out⟩
end Go.Proofs.Ytgiofigjnchfeaa.Q

namespace Go.Proofs.Ytgiofigjnchfeaa.Q
open Go.RowKit Go.Proofs.YtgiofigjnchfeaaW.PrintWords Go.Proofs.YtgiofigjnchfeaaW.PrintLast Go.Proofs.YtgiofigjnchfeaaW.PrintMore
set_option linter.unusedVariables false
set_option linter.unusedSimpArgs false

/-- What lies stays, but in the blocks of S. -/
structure Fr (S : Nat → Prop) (w W : World) : Prop where
 size : w.heap.size ≤ W.heap.size
 block : ∀ k, k < w.heap.size → ¬ S k → W.heap[k]? = w.heap[k]?
 same : W.os = w.os ∧ W.tape = w.tape ∧ W.output = w.output
section
variable {S S' : Nat → Prop} {w W W2 : World}
theorem Fr.refl (S : Nat → Prop) (w : World) : Fr S w w := ⟨Nat.le_refl _, fun _ _ _ => rfl, rfl, rfl, rfl⟩
theorem Fr.trans (h : Fr S w W) (k : Fr S W W2) : Fr S w W2 := ⟨Nat.le_trans h.1 k.1, fun i hi hs => (k.2 i (Nat.lt_of_lt_of_le hi h.1) hs).trans (h.2 i hi hs), k.3.1.trans h.3.1, k.3.2.1.trans h.3.2.1, k.3.2.2.trans h.3.2.2⟩
theorem Fr.mono (h : Fr S w W) (hs : ∀ k, S k → S' k) : Fr S' w W := ⟨h.1, fun i hi hn => h.2 i hi (fun hk => hn (hs i hk)), h.3⟩
theorem Fr.of_below (S : Nat → Prop) (h : Below w.heap.size w W) : Fr S w W := ⟨h.size, fun i hi _ => h.block i hi, h.os, h.tape, h.output⟩
theorem Fr.below (h : Fr S w W) (hb : Below W.heap.size W W2) : Fr S w W2 := h.trans (Fr.of_below S hb)
theorem Fr.drewN (h : Fr S w W) (m : Nat) : Fr S w (W.drewN m) := ⟨h.1, h.2, h.3⟩
theorem Fr.drew (h : Fr S w W) : Fr S w W.drew := ⟨h.1, h.2, h.3⟩
theorem Fr.set (h : Fr S w W) {p : Addr} (hp : S p.block) (u : Value) : Fr S w (W.setCell p u) :=
 ⟨by simp; exact h.1, fun i hi hs => (Below.heap_setCell W p u i (fun e => hs (e ▸ hp))).trans (h.2 i hi hs), h.3⟩
theorem Fr.toBelow {N : Nat} (h : Fr S w W) (hN : N ≤ w.heap.size) (hs : ∀ k, S k → N ≤ k) : Below N w W := ⟨h.3.1, h.3.2.1, h.3.2.2, h.1, fun k hk => h.2 k (Nat.lt_of_lt_of_le hk hN) (fun hS => by have := hs k hS; omega)⟩
theorem Fr.blk (h : Fr S w W) {g : Nat} {o : Obj} (hb : w.heap[g]? = some o) (hne : ¬ S g) : W.heap[g]? = some o := (h.2 g (blk_lt hb) hne).trans hb
end
/-- A row of one's own that isn't empty has a place. -/
theorem R_one {α : Type} {d : Kd α} {e base : Nat} {ok : Nat → Prop} {w : World} {v : Value} {xs : List α} (h : d.R e w base ok v xs) (hl : 0 < xs.length) : ∃ ad c, v = .slice (some ad) xs.length c := by
 obtain ⟨A, c, rfl⟩ := Kd.R_slice h
 have hC := (Kd.R_reads' h).2.2
 obtain ⟨ad, rfl, _⟩ := hC.2.2 hl
 exact ⟨ad, c, rfl⟩
/-- A row of slots of one's own, cell by cell. -/
def Own4 (w : World) (g cap : Nat) (l : List S29) : Prop :=
 ∃ cur : Array Value, w.heap[g]? = some (.cells cur 29 (0, 0)) ∧ cur.size = cap * 4 ∧ l.length ≤ cap ∧ cap ≤ maxLen ∧ ∀ (i : Nat) (h : i < l.length), cur[i * 4]? = some (.int .i64 l[i].f0) ∧ cur[i * 4 + 1]? = some (.int .i64 l[i].f1) ∧ cur[i * 4 + 2]? = some (.int .i64 l[i].f2) ∧ cur[i * 4 + 3]? = some (.int .i64 l[i].f3)

theorem R_Own4 {w : World} {base : Nat} {ok : Nat → Prop} {v : Value} {l : List S29} (h : Kd.R k29 29 w base ok v l) (hl : 0 < l.length) : ∃ g c, v = .slice (some ⟨g, 0, none⟩) l.length c ∧ Own4 w g c l ∧ base ≤ g := by
 obtain ⟨inner, ho⟩ := Kd.R_own h
 obtain ⟨ad, c, rfl⟩ := R_one h hl
 obtain ⟨hil, h2⟩ := ho
 rcases h2 with ⟨he, _⟩ | ⟨g, cap, cur, he, hb, hh, hnc, hcm, hcs, ht⟩
 ·
  cases he
 ·
  simp only [Value.slice.injEq, Option.some.injEq] at he
  obtain ⟨rfl, _, rfl⟩ := he
  refine ⟨g, c, rfl, ⟨cur, hh, hcs, hnc, hcm, fun i hi => ?_⟩, hb⟩
  obtain ⟨ad, e, h0, h1, h2, h3⟩ := at_T29 (Kd.R_reads' h).2.2 (i : Int) (by omega) (by omega)
  cases e
  rw [show rd_T29 l (i : Int) = l[i] by simp [rd_T29, hi], Int.toNat_natCast] at h0 h1 h2 h3
  have e0 : (Addr.add ⟨g, 0, none⟩ (i * 4)) = ⟨g, i * 4, none⟩ := by simp [Addr.add]; omega
  rw [e0] at h0 h1 h2 h3
  exact ⟨(blk_cell hh _).symm.trans h0, (blk_cell hh _).symm.trans h1, (blk_cell hh _).symm.trans h2, (blk_cell hh _).symm.trans h3⟩

theorem Own4_R {w : World} {g cap base : Nat} {l : List S29} (h : Own4 w g cap l) (hb : base ≤ g) : Kd.R k29 29 w base (fun _ => True) (.slice (some ⟨g, 0, none⟩) l.length cap) l := by
 obtain ⟨cur, hh, hcs, hnc, hcm, hc⟩ := h
 have hn4 : l.length * 4 ≤ cur.toList.length := by have : cur.toList.length = cur.size := Array.length_toList; omega
 refine flat_R Flat.k29 (w0 := w) (inner := cur.toList.take (l.length * 4)) ⟨?_, .inr ⟨g, cap, cur, rfl, hb, hh, hnc, hcm, hcs, rfl⟩⟩ ⟨?_, ?_⟩
 ·
  show (cur.toList.take (l.length * 4)).length = l.length * 4
  rw [List.length_take]; omega
 ·
  show (cur.toList.take (l.length * 4)).length = l.length * 4
  rw [List.length_take]; omega
 ·
  intro j p hj
  obtain ⟨hjl, hjp⟩ := List.getElem?_eq_some_iff.1 hj
  obtain ⟨h0, h1, h2, h3⟩ := hc j hjl
  have e : ((cur.toList.take (l.length * 4)).drop (j * 4)).take 4 = [.int .i64 p.f0, .int .i64 p.f1, .int .i64 p.f2, .int .i64 p.f3] := by
   rw [← hjp]
   apply List.ext_getElem?
   intro q
   rw [List.getElem?_take, List.getElem?_drop, List.getElem?_take]
   rcases (by omega : q = 0 ∨ q = 1 ∨ q = 2 ∨ q = 3 ∨ 4 ≤ q) with rfl | rfl | rfl | rfl | hq
   ·
    rw [if_pos (by omega), if_pos (by omega), Array.getElem?_toList]; exact h0
   ·
    rw [if_pos (by omega), if_pos (by omega), Array.getElem?_toList]; exact h1
   ·
    rw [if_pos (by omega), if_pos (by omega), Array.getElem?_toList]; exact h2
   ·
    rw [if_pos (by omega), if_pos (by omega), Array.getElem?_toList]; exact h3
   ·
    rw [if_neg (by omega)]
    exact (List.getElem?_eq_none (by simpa using hq)).symm
  show k29.K w p (((cur.toList.take (l.length * 4)).drop (j * 4)).take 4)
  rw [e]
  exact k29_mk w p

theorem Own4.of_fr {S : Nat → Prop} {w W : World} {g cap : Nat} {l : List S29} (h : Own4 w g cap l) (hf : Fr S w W) (hn : ¬ S g) : Own4 W g cap l := by
 obtain ⟨cs, hb, hm⟩ := h
 exact ⟨cs, hf.blk hb hn, hm⟩
theorem Own4.lt {w : World} {g cap : Nat} {l : List S29} (h : Own4 w g cap l) : g < w.heap.size := by
 obtain ⟨cs, hb, _⟩ := h
 exact blk_lt hb
theorem Own4.blk {w : World} {g cap : Nat} {l : List S29} (h : Own4 w g cap l) : ∃ cs, w.heap[g]? = some (.cells cs 29 (0, 0)) := ⟨_, h.choose_spec.1⟩
theorem Own4.cells {w : World} {g cap : Nat} {l : List S29} (h : Own4 w g cap l) {i : Nat} (hi : i < l.length) : w.cell? ⟨g, i * 4, none⟩ = some (.int .i64 l[i].f0) ∧ w.cell? ⟨g, i * 4 + 1, none⟩ = some (.int .i64 l[i].f1) ∧ w.cell? ⟨g, i * 4 + 2, none⟩ = some (.int .i64 l[i].f2) ∧ w.cell? ⟨g, i * 4 + 3, none⟩ = some (.int .i64 l[i].f3) := by
 obtain ⟨cs, hb, _, _, _, hc⟩ := h
 exact ⟨(blk_cell hb _).trans (hc i hi).1, (blk_cell hb _).trans (hc i hi).2.1, (blk_cell hb _).trans (hc i hi).2.2.1, (blk_cell hb _).trans (hc i hi).2.2.2⟩
theorem Own4.frozen {w : World} {g cap : Nat} {l : List S29} (h : Own4 w g cap l) (j : Nat) : w.frozen? ⟨g, j, none⟩ = false := by
 obtain ⟨cs, hb, _⟩ := h
 exact blk_frozen hb j
theorem Own4.put2 {w : World} {g cap : Nat} {l : List S29} (h : Own4 w g cap l) {i : Nat} (hi : i < l.length) (x : Int) : Own4 (w.setCell ⟨g, i * 4 + 2, none⟩ (.int .i64 x)) g cap (l.set i ⟨l[i].f0, l[i].f1, x, l[i].f3⟩) := by
 obtain ⟨cs, hb, hs, hn, hm, hc⟩ := h
 refine ⟨_, blk_put' hb _ _, by simpa using hs, by simpa using hn, hm, fun j hj => ?_⟩
 rw [List.length_set] at hj
 obtain ⟨h0, h1, h2, h3⟩ := hc j hj
 have hl2 := (Array.getElem?_eq_some_iff.1 h2).1
 by_cases e : i = j
 ·
  subst e
  simp only [List.getElem_set_self]
  exact ⟨by rw [Array.getElem?_setIfInBounds_ne (by omega)]; exact h0, by rw [Array.getElem?_setIfInBounds_ne (by omega)]; exact h1, by simp [Array.getElem?_setIfInBounds, hl2], by rw [Array.getElem?_setIfInBounds_ne (by omega)]; exact h3⟩
 ·
  rw [Array.getElem?_setIfInBounds_ne (by omega), Array.getElem?_setIfInBounds_ne (by omega), Array.getElem?_setIfInBounds_ne (by omega), Array.getElem?_setIfInBounds_ne (by omega), List.getElem_set_ne e]
  exact ⟨h0, h1, h2, h3⟩
theorem Own4.put3 {w : World} {g cap : Nat} {l : List S29} (h : Own4 w g cap l) {i : Nat} (hi : i < l.length) (x : Int) : Own4 (w.setCell ⟨g, i * 4 + 3, none⟩ (.int .i64 x)) g cap (l.set i ⟨l[i].f0, l[i].f1, l[i].f2, x⟩) := by
 obtain ⟨cs, hb, hs, hn, hm, hc⟩ := h
 refine ⟨_, blk_put' hb _ _, by simpa using hs, by simpa using hn, hm, fun j hj => ?_⟩
 rw [List.length_set] at hj
 obtain ⟨h0, h1, h2, h3⟩ := hc j hj
 have hl3 := (Array.getElem?_eq_some_iff.1 h3).1
 by_cases e : i = j
 ·
  subst e
  simp only [List.getElem_set_self]
  exact ⟨by rw [Array.getElem?_setIfInBounds_ne (by omega)]; exact h0, by rw [Array.getElem?_setIfInBounds_ne (by omega)]; exact h1, by rw [Array.getElem?_setIfInBounds_ne (by omega)]; exact h2, by simp [Array.getElem?_setIfInBounds, hl3]⟩
 ·
  rw [Array.getElem?_setIfInBounds_ne (by omega), Array.getElem?_setIfInBounds_ne (by omega), Array.getElem?_setIfInBounds_ne (by omega), Array.getElem?_setIfInBounds_ne (by omega), List.getElem_set_ne e]
  exact ⟨h0, h1, h2, h3⟩

def relS (x : S29) : S29 := ⟨x.f0, x.f1, 3, 0⟩
def opnS (x : S29) : S29 := ⟨x.f0, x.f1, 2, x.f3⟩

set_option maxHeartbeats 8000000 in
set_option maxRecDepth 100000 in
theorem Release1.calls (g cap i : Nat) (l : List S29) (w : World) (hO : Own4 w g cap l) (hi : i < l.length) :
  Calls Try.prog 46 #[.pointer (some ⟨g, i * 4, none⟩)] w fun e w' => e = .returned (.tuple #[]) ∧ Own4 w' g cap (l.set i (relS l[i])) ∧ Fr (fun k => k = g) w w' := by
 obtain ⟨h0, h1, h2, h3⟩ := hO.cells hi
 have hu29 := Try.underlying29
 have hfz := hO.frozen
 have HO := Aside0.mk hO
 have h3b : (w.setCell ⟨g, i * 4 + 2, none⟩ (.int .i64 3)).cell? ⟨g, i * 4 + 3, none⟩ = some (.int .i64 l[i].f3) := by
  have := ((hO.put2 hi 3).cells (by simpa using hi)).2.2.2
  simpa using this
 have HE : Aside0 (Own4 ((w.setCell ⟨g, i * 4 + 2, none⟩ (.int .i64 3)).setCell ⟨g, i * 4 + 3, none⟩ (.int .i64 0)) g cap (l.set i (relS l[i]))) := ⟨by
  have := (hO.put2 hi 3).put3 (by simpa using hi) 0
  simpa [relS] using this⟩
 generalize l[i] = x at *
 clear hO
 go_enter Try.func46, Try.ntmps46
 go_wp2
 go_end0
 exact ⟨rfl, HE.out, ((Fr.refl (fun k => k = g) w).set (p := ⟨g, i * 4 + 2, none⟩) rfl _).set (p := ⟨g, i * 4 + 3, none⟩) rfl _⟩
set_option maxHeartbeats 8000000 in
set_option maxRecDepth 100000 in
theorem Opened1.calls (g cap i : Nat) (l : List S29) (w : World) (hO : Own4 w g cap l) (hi : i < l.length) :
  Calls Try.prog 48 #[.pointer (some ⟨g, i * 4, none⟩)] w fun e w' => e = .returned (.tuple #[]) ∧ Own4 w' g cap (l.set i (opnS l[i])) ∧ Fr (fun k => k = g) w w' := by
 obtain ⟨h0, h1, h2, h3⟩ := hO.cells hi
 have hu29 := Try.underlying29
 have hfz := hO.frozen
 have HE : Aside0 (Own4 (w.setCell ⟨g, i * 4 + 2, none⟩ (.int .i64 2)) g cap (l.set i (opnS l[i]))) := ⟨hO.put2 hi 2⟩
 generalize l[i] = x at *
 clear hO
 go_enter Try.func48, Try.ntmps48
 go_wp2
 go_end0
 exact ⟨rfl, HE.out, (Fr.refl (fun k => k = g) w).set (p := ⟨g, i * 4 + 2, none⟩) rfl _⟩

set_option maxHeartbeats 8000000 in
set_option maxRecDepth 100000 in
theorem slices_Index.calls (A : Option Addr) (c : Nat) (l : List Int) (x : Int) (w : World) (hC : Kd.C (Kd.int .i64) w A l.length l) :
  Calls Try.prog 60 #[.slice A l.length c, .int .i64 x] w fun e w' => e = .returned (.int .i64 (idxP (fun y => x == y) l)) ∧ w' = w := by
 have hm : l.length ≤ 9223372036854775807 := hC.2.1
 have HC := Aside0.mk hC
 clear hC
 go_enter Try.func60, Try.ntmps60
 go_wp2
 go_loopg [8] l.length (fun gg v8 wr => ∃ n : Nat, n ≤ l.length ∧ l.length - n ≤ gg ∧ v8 = .int .i64 n ∧ Aside0 (∀ j (h : j < l.length), j < n → (x == l[j]) = false) ∧ wr = w)
 case atStart => exact ⟨0, Nat.zero_le _, by omega, rfl, ⟨fun j _ h => absurd h (Nat.not_lt_zero _)⟩, rfl⟩
 case round =>
  obtain ⟨n, hn, hg, rfl, HF, rfl⟩ := hrel
  by_cases hlt : n < l.length
  ·
   have hltz : (n : Int) < (l.length : Int) := by omega
   obtain ⟨ad, e1, hx⟩ := Kd.at_int HC.out n (by omega) hltz
   cases e1
   rw [show rd l (n : Int) = l[n] by simp [rd, hlt], Int.toNat_natCast] at hx
   have hne0 : (0 : Int) ≤ (n : Int) := by omega
   generalize hy : l[n] = y at hx
   have HY := Aside0.mk hy
   clear hy
   cases hq : (x == y) with
   | true =>
    have HQ := Aside0.mk hq
    go_wp2
    go_ret
    refine ⟨?_, rfl⟩
    have e1 : idxP (fun y => x == y) l = (n : Int) := by
     unfold idxP
     rw [idxPF_hit _ l 0 n hlt (fun j hj => HF.out j (by omega) hj) (by show (x == l[n]) = true; rw [HY.out]; exact HQ.out)]
     omega
    simp only [e1]
    rfl
   | false =>
    have HQ := Aside0.mk hq
    go_wp2
    go_roundg (l.length - (n + 1))
    case measure => omega
    case rel => exact ⟨n + 1, by omega, Nat.le_refl _, by go_num, ⟨fun j hj hlt2 => by
     by_cases e : j = n
     ·
      subst e; rw [HY.out]; exact HQ.out
     ·
      exact HF.out j hj (by omega)⟩, rfl⟩
  ·
   have hltz : ¬ (n : Int) < (l.length : Int) := by omega
   obtain rfl : n = l.length := by omega
   go_wp2
   go_ret
   refine ⟨?_, rfl⟩
   have e1 : idxP (fun y => x == y) l = -1 := by
    unfold idxP
    refine idxPF_all _ l 0 (fun y hy => ?_)
    obtain ⟨j, hj, rfl⟩ := List.getElem_of_mem hy
    exact HF.out j hj hj
   simp only [e1]
   rfl

theorem idxPF_any {α : Type} (p : α → Bool) : ∀ (l : List α) (k : Nat), decide (0 ≤ idxPF p l k) = l.any p
 | [], k => by simp [idxPF]
 | x :: r, k => by
  cases h : p x with
  | true =>
   simp only [idxPF, h, if_true, List.any_cons, Bool.true_or]
   exact decide_eq_true (by omega)
  | false =>
   simp only [idxPF, h, Bool.false_eq_true, if_false, List.any_cons, Bool.false_or]
   exact idxPF_any p r (k + 1)
theorem idxP_nonneg {α : Type} (p : α → Bool) (l : List α) : decide (0 ≤ idxP p l) = l.any p := idxPF_any p l 0

set_option maxHeartbeats 8000000 in
set_option maxRecDepth 100000 in
theorem slices_Contains.calls (A : Option Addr) (c : Nat) (l : List Int) (x : Int) (w : World) (hC : Kd.C (Kd.int .i64) w A l.length l) :
  Calls Try.prog 57 #[.slice A l.length c, .int .i64 x] w fun e w' => e = .returned (.bool (l.any fun y => x == y)) ∧ w' = w := by
 have HI := Aside0.mk (slices_Index.calls A c l x w hC)
 rw [← idxP_nonneg]
 generalize idxP (fun y => x == y) l = i at HI ⊢
 clear hC
 go_enter Try.func57, Try.ntmps57
 go_wp2_with (go_at_call 60; refine HI.out.mono ?_; rintro e w' ⟨rfl, rfl⟩)
 go_ret
 exact ⟨rfl, rfl⟩
end Go.Proofs.Ytgiofigjnchfeaa.Q

namespace Go.Proofs.Ytgiofigjnchfeaa.Q
open Go.RowKit Go.Proofs.YtgiofigjnchfeaaW.PrintWords Go.Proofs.YtgiofigjnchfeaaW.PrintLast Go.Proofs.YtgiofigjnchfeaaW.PrintMore
set_option linter.unusedVariables false
set_option linter.unusedSimpArgs false

/-- The first one that is so is changed, if it may. -/
def setL (p ok : S29 → Bool) (upd : S29 → S29) : List S29 → Option (List S29)
 | [] => none
 | x :: r => if p x = true then (if ok x = true then some (upd x :: r) else none) else (setL p ok upd r).map (x :: ·)
theorem setL_none (p ok : S29 → Bool) (upd : S29 → S29) : ∀ (l : List S29), (∀ x ∈ l, p x = false) → setL p ok upd l = none
 | [], _ => rfl
 | x :: r, h => by
  simp only [setL, h x List.mem_cons_self, Bool.false_eq_true, if_false]
  rw [setL_none p ok upd r (fun y hy => h y (List.mem_cons_of_mem _ hy))]
  rfl
theorem setL_hit (p ok : S29 → Bool) (upd : S29 → S29) : ∀ (l : List S29) (n : Nat) (hn : n < l.length), (∀ j (hj : j < n), p (l[j]'(by omega)) = false) → p l[n] = true → setL p ok upd l = if ok l[n] = true then some (l.set n (upd l[n])) else none
 | [], n, hn, _, _ => absurd hn (Nat.not_lt_zero _)
 | x :: r, 0, _, _, ht => by
  have ht' : p x = true := ht
  simp only [setL, ht', if_true, List.getElem_cons_zero, List.set_cons_zero]
 | x :: r, n + 1, hn, hf, ht => by
  have h0 : p x = false := hf 0 (by omega)
  have := setL_hit p ok upd r n (by simpa using hn) (fun j hj => hf (j + 1) (by omega)) ht
  simp only [setL, h0, Bool.false_eq_true, if_false, this, List.getElem_cons_succ, List.set_cons_succ]
  split <;> rfl
def setF (p ok : S29 → Bool) (upd : S29 → S29) (M : List Int) (l : List S29) : List Int × List S29 × Int :=
 match setL p ok upd l with
 | some l' => (M, l', 0)
 | none => (M, l, 11)

set_option maxHeartbeats 16000000 in
set_option maxRecDepth 100000 in
theorem pool_set.calls (kc : Nat) (upd : S29 → S29) (As : Addr) (sts : List Int) (cs : Nat) (P0 : Nat → Prop) (A0 : Option Addr) (c0 : Nat) (l0_0 : List Int) (P1 : Nat → Prop) (A : Option Addr) (c : Nat) (l : List S29) (a1 a2 : Int) (w : World) (hs0 : Kd.V (Kd.int .i64) 3 w w.heap.size (fun k_ => P0 k_) (.slice A0 l0_0.length c0) l0_0) (hs1 : Kd.V k29 29 w w.heap.size (fun k_ => P1 k_) (.slice A l.length c) l) (hst : Kd.C (Kd.int .i64) w (some As) sts.length sts) (hl : l.length ≤ 4398046511000)
  (eK : ∀ args w, (callFunc kc args).run Try.prog w = .ok (.enter kc args) w)
  (hchg : ∀ (g cap i : Nat) (l : List S29) (X : World) (hO : Own4 X g cap l) (hi : i < l.length), Calls Try.prog kc #[.pointer (some ⟨g, i * 4, none⟩)] X fun e w' => e = .returned (.tuple #[]) ∧ Own4 w' g cap (l.set i (upd l[i])) ∧ Fr (fun k => k = g) X w') :
  Calls Try.prog 45 #[.agg #[.slice A0 l0_0.length c0, .slice A l.length c], .int .i64 a1, .int .i64 a2, .func (.func kc) #[] #[], .slice (some As) sts.length cs] w fun e w' => ∃ v0_ v1_ : Value, e = .returned (.tuple #[.agg #[v0_, v1_], .int .i64 (setF (atP a1 a2) (fun x => sts.any fun y => x.f2 == y) upd l0_0 l).2.2]) ∧ Kd.V (Kd.int .i64) 3 w' w.heap.size (fun k_ => ((P0 k_ ∨ P1 k_) ∨ w.heap.size ≤ k_)) v0_ (setF (atP a1 a2) (fun x => sts.any fun y => x.f2 == y) upd l0_0 l).1 ∧ Kd.V k29 29 w' w.heap.size (fun k_ => ((P0 k_ ∨ P1 k_) ∨ w.heap.size ≤ k_)) v1_ (setF (atP a1 a2) (fun x => sts.any fun y => x.f2 == y) upd l0_0 l).2.1 ∧ Below w.heap.size w w' := by
 have hu25 := Try.underlying25
 have hu29 := Try.underlying29
 have HS0 := Aside0.mk hs0
 have HS1 := Aside0.mk hs1
 have hC : Kd.C k29 w A l.length l := (Kd.V_reads' hs1).2.2
 have hcl : l.length ≤ c := (Kd.V_reads' hs1).2.1
 generalize l0_0.length = n0 at *
 have HI := Aside0.mk (pool_place.calls A0 n0 c0 A c l a1 a2 ((w.alloc (.cells #[.slice A0 n0 c0, .slice A l.length c] 25)).alloc (.cells #[.slice none 0 0, .slice none 0 0] 25)) (Kd.C_alloc (Kd.C_alloc hC _) _))
 have HBK : Aside0 (((w.alloc (.cells #[.slice A0 n0 c0, .slice A l.length c] 25)).alloc (.cells #[.slice none 0 0, .slice none 0 0] 25)).heap[w.heap.size]? = some (.cells #[.slice A0 n0 c0, .slice A l.length c] 25 (0, 0))) := ⟨blk_alloc (blk_new _ _) _⟩
 have HBR : Aside0 (((w.alloc (.cells #[.slice A0 n0 c0, .slice A l.length c] 25)).alloc (.cells #[.slice none 0 0, .slice none 0 0] 25)).heap[w.heap.size + 1]? = some (.cells #[.slice none 0 0, .slice none 0 0] 25 (0, 0))) := ⟨by simpa using blk_new (w.alloc (.cells #[.slice A0 n0 c0, .slice A l.length c] 25)) (.cells #[.slice none 0 0, .slice none 0 0] 25)⟩
 have HB3 : Aside0 (Below w.heap.size w ((w.alloc (.cells #[.slice A0 n0 c0, .slice A l.length c] 25)).alloc (.cells #[.slice none 0 0, .slice none 0 0] 25))) := ⟨below_alloc (below_alloc (Below.refl _ _) _) _⟩
 have hne : w.heap.size ≠ w.heap.size + 1 := by omega
 have HGE := Aside0.mk (show w.heap.size ≤ w.heap.size + 1 by omega)
 have HC := Aside0.mk hC
 have HCS : Aside0 (∀ (x : Int) (W : World), Below w.heap.size w W → Calls Try.prog 57 #[.slice (some As) sts.length cs, .int .i64 x] W fun e w' => e = .returned (.bool (sts.any fun y => x == y)) ∧ w' = W) := ⟨fun x W hW => slices_Contains.calls (some As) cs sts x W (Kd.C_below hst hW)⟩
 have HCL : Aside0 (∀ (W : World), Below w.heap.size w W → Calls Try.prog 39 #[.slice A l.length c] W fun e w' => ∃ v : Value, e = .returned v ∧ Kd.R k29 29 w' W.heap.size (fun _ => True) v l ∧ Below W.heap.size W w') := ⟨fun W hW => slices_Clone_Slot.calls A c l W (Kd.C_below hC hW) hl⟩
 have HCH := Aside0.mk hchg
 have hm : l.length ≤ 9223372036854775807 := hC.2.1
 generalize sts.length = ns at *
 unfold setF
 rcases idxP_cases (atP a1 a2) l with ⟨h1, -, h2⟩ | ⟨n, hn, h1, -, h3, h4⟩
 ·
  rw [setL_none _ _ _ _ h2]
  rw [h1] at HI
  clear hs0 hs1 hC hst hchg h1 h2
  go_enter Try.func45, Try.ntmps45
  go_wp2_with (go_at_call 41; refine HI.out.mono ?_; rintro e w4 ⟨rfl, hb⟩; have bk3 := blk_below HBR.out hb; have hd0 : w4.cell? ⟨w.heap.size + 1, 0, none⟩ = some (.slice none 0 0) := (blk_cell bk3 0).trans rfl; have hd1 : w4.cell? ⟨w.heap.size + 1, 1, none⟩ = some (.slice none 0 0) := (blk_cell bk3 1).trans rfl; have hfz := fun j => blk_frozen bk3 j; have BK3 := Aside0.mk bk3; have bk1 := blk_below HBK.out hb; have hp0 : w4.cell? ⟨w.heap.size, 0, none⟩ = some (.slice A0 n0 c0) := (blk_cell bk1 0).trans rfl; have hp1 : w4.cell? ⟨w.heap.size, 1, none⟩ = some (.slice A l.length c) := (blk_cell bk1 1).trans rfl; have HB := Aside0.mk (HB3.out.trans (hb.mono HB3.out.size)); clear hb bk3 bk1)
  refine bodyPost_ret (results_ct rfl _ _ (w.heap.size + 1) 25 #[.slice A0 n0 c0, .slice A l.length c] (0, 0) _ rfl (by refine blk_put (cs := #[.slice A0 n0 c0, .slice none 0 0]) ?_ 1 _ rfl; refine blk_put (cs := #[.slice none 0 0, .slice none 0 0]) ?_ 0 _ rfl; exact BK3.out) Try.underlying25 rfl (by kernel_rfl)) rfl ?_
  have HBF : Below w.heap.size w _ := below_set (below_set HB.out (g := w.heap.size + 1) (j := 0) (v := .slice A0 n0 c0) HGE.out) (g := w.heap.size + 1) (j := 1) (v := .slice A l.length c) HGE.out
  exact ⟨_, _, rfl, Kd.V_mono (Kd.V_below HS0.out HBF) (fun k hk => Or.inl (Or.inl hk)), Kd.V_mono (Kd.V_below HS1.out HBF) (fun k hk => Or.inl (Or.inr hk)), HBF⟩
 ·
  rw [setL_hit _ _ _ _ n hn h4 h3]
  rw [h1, show decide ((0 : Int) ≤ (n : Int)) = true by simp] at HI
  have hltz : (n : Int) < (l.length : Int) := by omega
  have hn0 : (0 : Int) ≤ (n : Int) := by omega
  have hrd : rd_T29 l (n : Int) = l[n] := by simp [rd_T29, hn]
  have HPOS : Aside0 (0 < l.length) := ⟨by omega⟩
  have HN := Aside0.mk hn
  cases hq : sts.any fun y => l[n].f2 == y with
  | false =>
   rw [if_neg (by simp)]
   have HQ := Aside0.mk hq
   have HRD := Aside0.mk hrd
   clear hs0 hs1 hC hst hchg h1 h3 h4 hq hrd
   go_enter Try.func45, Try.ntmps45
   go_wp2_with (first
    | (go_at_call 41; refine HI.out.mono ?_; rintro e w4 ⟨rfl, hb⟩; have bk3 := blk_below HBR.out hb; have hd0 : w4.cell? ⟨w.heap.size + 1, 0, none⟩ = some (.slice none 0 0) := (blk_cell bk3 0).trans rfl; have hd1 : w4.cell? ⟨w.heap.size + 1, 1, none⟩ = some (.slice none 0 0) := (blk_cell bk3 1).trans rfl; have hfz := fun j => blk_frozen bk3 j; have BK3 := Aside0.mk bk3; have bk1 := blk_below HBK.out hb; have hp0 : w4.cell? ⟨w.heap.size, 0, none⟩ = some (.slice A0 n0 c0) := (blk_cell bk1 0).trans rfl; have hp1 : w4.cell? ⟨w.heap.size, 1, none⟩ = some (.slice A l.length c) := (blk_cell bk1 1).trans rfl; have HB := Aside0.mk (HB3.out.trans (hb.mono HB3.out.size)); clear hb bk3 bk1; obtain ⟨ad, e1, hx0, hx1, hx2, hx3⟩ := at_T29 (Kd.C_below HC.out HB.out) (n : Int) hn0 hltz; cases e1; rw [Int.toNat_natCast] at hx0 hx1 hx2 hx3; clear hx0 hx1 hx3; rw [HRD.out] at hx2)
    | (go_at_call 57; refine (HCS.out _ _ HB.out).mono ?_; rintro e w5 ⟨rfl, rfl⟩; rw [HQ.out]))
   refine bodyPost_ret (results_ct rfl _ _ (w.heap.size + 1) 25 #[.slice A0 n0 c0, .slice (some ad) l.length c] (0, 0) _ rfl (by refine blk_put (cs := #[.slice A0 n0 c0, .slice none 0 0]) ?_ 1 _ rfl; refine blk_put (cs := #[.slice none 0 0, .slice none 0 0]) ?_ 0 _ rfl; exact BK3.out) Try.underlying25 rfl (by kernel_rfl)) rfl ?_
   have HBF : Below w.heap.size w _ := below_set (below_set HB.out (g := w.heap.size + 1) (j := 0) (v := .slice A0 n0 c0) HGE.out) (g := w.heap.size + 1) (j := 1) (v := .slice (some ad) l.length c) HGE.out
   exact ⟨_, _, rfl, Kd.V_mono (Kd.V_below HS0.out HBF) (fun k hk => Or.inl (Or.inl hk)), Kd.V_mono (Kd.V_below HS1.out HBF) (fun k hk => Or.inl (Or.inr hk)), HBF⟩
  | true =>
   rw [if_pos rfl]
   have HQ := Aside0.mk hq
   have HRD := Aside0.mk hrd
   clear hs0 hs1 hC hst hchg h1 h3 h4 hq hrd
   go_enter Try.func45, Try.ntmps45
   go_wp2_with (first
    | (go_at_call 41; refine HI.out.mono ?_; rintro e w4 ⟨rfl, hb⟩; have BK3 := Aside0.mk (blk_below HBR.out hb); have BK1 := Aside0.mk (blk_below HBK.out hb); have hp1 : w4.cell? ⟨w.heap.size, 1, none⟩ = some (.slice A l.length c) := (blk_cell BK1.out 1).trans rfl; have HB := Aside0.mk (HB3.out.trans (hb.mono HB3.out.size)); clear hb; obtain ⟨ad, e1, hx0, hx1, hx2, hx3⟩ := at_T29 (Kd.C_below HC.out HB.out) (n : Int) hn0 hltz; cases e1; rw [Int.toNat_natCast] at hx0 hx1 hx2 hx3; clear hx0 hx1 hx3; rw [HRD.out] at hx2)
    | (go_at_call 57; refine (HCS.out _ _ HB.out).mono ?_; rintro e w5 ⟨rfl, rfl⟩; rw [HQ.out])
    | (go_at_call 39; refine (HCL.out _ HB.out).mono ?_; rintro e w5 ⟨vM, rfl, hR, hb⟩; obtain ⟨g, cap, rfl, hO, hbg⟩ := R_Own4 hR HPOS.out; have HO := Aside0.mk hO; have HBG := Aside0.mk (Nat.le_trans HB.out.size hbg); have n1 := Aside0.mk (blk_below BK1.out hb); have n3 := Aside0.mk (blk_below BK3.out hb); have nB := Aside0.mk (HB.out.trans (hb.mono HB.out.size)); clear BK1 BK3 HB hb hR hO hbg hp1 hx2; have BK1 := n1; have BK3 := n3; have HB := nB; clear n1 n3 nB; have hp1 : w5.cell? ⟨w.heap.size, 1, none⟩ = some (.slice (some ad) l.length c) := (blk_cell BK1.out 1).trans rfl; have hfp := fun j => blk_frozen BK1.out j)
    | ((with_reducible refine gate_store (t := 23) (p := 38) rfl ?_); refine store_event (t := 23) (p := 38) (v := ?vo_w6) (w1 := (w5.setCell ⟨w.heap.size, 1, none⟩ (.slice (some ⟨g, 0, none⟩) l.length cap))) ?hg ?ho ?hn ?hr ?_; (case ho => rfl); (case hg => rfl); (case hn => rfl); (case hr => first | (go_simp; done) | (go_simp; rfl)); intro w6 hw; have HNG := Aside0.mk (show g ≠ w.heap.size from (by obtain ⟨_, hh⟩ := HO.out.blk; exact blk_ne hh BK1.out (by decide))); have HNG3 := Aside0.mk (show g ≠ w.heap.size + 1 from (by obtain ⟨_, hh⟩ := HO.out.blk; exact blk_ne hh BK3.out (by decide))); have nO : Aside0 (Own4 w6 g cap l) := ⟨by rw [hw]; exact HO.out.of_fr ((Fr.refl (fun k => k = w.heap.size) w5).set (p := ⟨w.heap.size, 1, none⟩) rfl _) HNG.out⟩; have n1 : Aside0 (w6.heap[w.heap.size]? = some (.cells #[.slice A0 n0 c0, .slice (some ⟨g, 0, none⟩) l.length cap] 25 (0, 0))) := ⟨by rw [hw]; exact blk_put BK1.out 1 _ rfl⟩; have n3 : Aside0 (w6.heap[w.heap.size + 1]? = some (.cells #[.slice none 0 0, .slice none 0 0] 25 (0, 0))) := ⟨by rw [hw]; exact blk_far BK3.out hne.symm _⟩; have nB : Aside0 (Below w.heap.size w w6) := ⟨by rw [hw]; exact below_set HB.out (Nat.le_refl _)⟩; clear HO BK1 BK3 HB hw hp1 hfp; have HO := nO; have BK1 := n1; have BK3 := n3; have HB := nB; clear nO n1 n3 nB; have hp1 : w6.cell? ⟨w.heap.size, 1, none⟩ = some (.slice (some ⟨g, 0, none⟩) l.length cap) := (blk_cell BK1.out 1).trans rfl)
    | (go_at_fn kc; refine (HCH.out g cap n l _ HO.out HN.out).mono ?_; rintro e w7 ⟨rfl, hO, hf⟩; have n1 := Aside0.mk (hf.blk BK1.out (fun e => HNG.out e.symm)); have n3 := Aside0.mk (hf.blk BK3.out (fun e => HNG3.out e.symm)); have nB := Aside0.mk (HB.out.trans (hf.toBelow HB.out.size (fun k hk => by rw [hk]; exact HBG.out))); have nO := Aside0.mk hO; clear HO BK1 BK3 HB hO hf hp1; have HO := nO; have BK1 := n1; have BK3 := n3; have HB := nB; clear nO n1 n3 nB; have hp0 : w7.cell? ⟨w.heap.size, 0, none⟩ = some (.slice A0 n0 c0) := (blk_cell BK1.out 0).trans rfl; have hp1 : w7.cell? ⟨w.heap.size, 1, none⟩ = some (.slice (some ⟨g, 0, none⟩) l.length cap) := (blk_cell BK1.out 1).trans rfl; have hd0 : w7.cell? ⟨w.heap.size + 1, 0, none⟩ = some (.slice none 0 0) := (blk_cell BK3.out 0).trans rfl; have hd1 : w7.cell? ⟨w.heap.size + 1, 1, none⟩ = some (.slice none 0 0) := (blk_cell BK3.out 1).trans rfl; have hfz := fun j => blk_frozen BK3.out j))
   refine bodyPost_ret (results_ct rfl _ _ (w.heap.size + 1) 25 #[.slice A0 n0 c0, .slice (some ⟨g, 0, none⟩) l.length cap] (0, 0) _ rfl (by refine blk_put (cs := #[.slice A0 n0 c0, .slice none 0 0]) ?_ 1 _ rfl; refine blk_put (cs := #[.slice none 0 0, .slice none 0 0]) ?_ 0 _ rfl; exact BK3.out) Try.underlying25 rfl (by kernel_rfl)) rfl ?_
   have HBF : Below w.heap.size w _ := below_set (below_set HB.out (g := w.heap.size + 1) (j := 0) (v := .slice A0 n0 c0) HGE.out) (g := w.heap.size + 1) (j := 1) (v := .slice (some ⟨g, 0, none⟩) l.length cap) HGE.out
   have hR := Own4_R HO.out HBG.out
   rw [List.length_set] at hR
   exact ⟨_, _, rfl, Kd.V_mono (Kd.V_below HS0.out HBF) (fun k hk => Or.inl (Or.inl hk)), Kd.V_mono (Kd.R_V (Kd.R_bound (R_set2 hR BK3.out (by decide) _ _ _ _))) (fun k hk => Or.inr hk.2.1), HBF⟩
end Go.Proofs.Ytgiofigjnchfeaa.Q

namespace Go.Proofs.Ytgiofigjnchfeaa.Q
open Go.RowKit Go.Proofs.YtgiofigjnchfeaaW.PrintWords Go.Proofs.YtgiofigjnchfeaaW.PrintLast Go.Proofs.YtgiofigjnchfeaaW.PrintMore
set_option linter.unusedVariables false
set_option linter.unusedSimpArgs false

theorem C_ints {w : World} {g : Nat} {cs : Array Value} {l : List Int} (h : w.heap[g]? = some (.cells cs 3 (0, 0))) (hl : l.length ≤ 9223372036854775807) (hc : ∀ (i : Nat) (hi : i < l.length), cs[i]? = some (.int .i64 l[i])) : Kd.C (Kd.int .i64) w (some ⟨g, 0, none⟩) l.length l := by
 refine ⟨rfl, hl, fun hn => ⟨_, rfl, fun j p hj => ?_⟩⟩
 obtain ⟨hjl, hjp⟩ := List.getElem?_eq_some_iff.1 hj
 refine ⟨[.int .i64 p], rfl, rfl, fun i u hu => ?_⟩
 have hi0 : i = 0 := by
  have := (List.getElem?_eq_some_iff.1 hu).1
  simp at this
  omega
 subst hi0
 simp at hu
 subst hu
 have := (blk_cell h j).trans (hc j hjl)
 rw [hjp] at this
 show w.cell? (((⟨g, 0, none⟩ : Addr).add (j * 1)).add 0) = some (.int .i64 p)
 rw [Nat.mul_one, Addr.add_lit, Addr.add_zero', Nat.zero_add]
 exact this

def pool_Release.f (l0_0 : List Int) (l0_1 : List S29) (a1 a2 : Int) : Option (List Int × List S29 × Int) :=
 if l0_1.length ≤ 4398046511000 then some (setF (atP a1 a2) (fun x => ([1, 2] : List Int).any fun y => x.f2 == y) relS l0_0 l0_1) else none

set_option maxHeartbeats 8000000 in
set_option maxRecDepth 100000 in
theorem pool_Release.calls (P0 : Nat → Prop) (A0 : Option Addr) (c0 : Nat) (l0_0 : List Int) (P1 : Nat → Prop) (A : Option Addr) (c : Nat) (l : List S29) (a1 a2 : Int) (r1 : List Int) (r2 : List S29) (r3 : Int) (w : World) (hs0 : Kd.V (Kd.int .i64) 3 w w.heap.size (fun k_ => P0 k_) (.slice A0 l0_0.length c0) l0_0) (hs1 : Kd.V k29 29 w w.heap.size (fun k_ => P1 k_) (.slice A l.length c) l) (h : pool_Release.f l0_0 l a1 a2 = some (r1, r2, r3)) :
  Calls Try.prog 18 #[.agg #[.slice A0 l0_0.length c0, .slice A l.length c], .int .i64 a1, .int .i64 a2] w fun e w' => ∃ v0_ v1_ : Value, e = .returned (.tuple #[.agg #[v0_, v1_], .int .i64 r3]) ∧ Kd.V (Kd.int .i64) 3 w' w.heap.size (fun k_ => ((P0 k_ ∨ P1 k_) ∨ w.heap.size ≤ k_)) v0_ r1 ∧ Kd.V k29 29 w' w.heap.size (fun k_ => ((P0 k_ ∨ P1 k_) ∨ w.heap.size ≤ k_)) v1_ r2 ∧ Below w.heap.size w w' := by
 have hu25 := Try.underlying25
 have hl : l.length ≤ 4398046511000 := by
  unfold pool_Release.f at h
  by_cases hh : l.length ≤ 4398046511000
  ·
   exact hh
  ·
   rw [if_neg hh] at h; cases h
 unfold pool_Release.f at h
 rw [if_pos hl] at h
 have h := Option.some.inj h
 have HB3 : Aside0 (Below w.heap.size w (((w.alloc (.cells #[.slice A0 l0_0.length c0, .slice A l.length c] 25)).alloc (.cells #[.slice none 0 0, .slice none 0 0] 25)).alloc (.cells #[.int .i64 1, .int .i64 2] 3))) := ⟨below_alloc (below_alloc (below_alloc (Below.refl _ _) _) _) _⟩
 have HBR : Aside0 ((((w.alloc (.cells #[.slice A0 l0_0.length c0, .slice A l.length c] 25)).alloc (.cells #[.slice none 0 0, .slice none 0 0] 25)).alloc (.cells #[.int .i64 1, .int .i64 2] 3)).heap[w.heap.size + 1]? = some (.cells #[.slice none 0 0, .slice none 0 0] 25 (0, 0))) := ⟨blk_alloc (by simpa using blk_new (w.alloc (.cells #[.slice A0 l0_0.length c0, .slice A l.length c] 25)) (.cells #[.slice none 0 0, .slice none 0 0] 25)) _⟩
 have hb2 : (((w.alloc (.cells #[.slice A0 l0_0.length c0, .slice A l.length c] 25)).alloc (.cells #[.slice none 0 0, .slice none 0 0] 25)).alloc (.cells #[.int .i64 1, .int .i64 2] 3)).heap[w.heap.size + 1 + 1]? = some (.cells #[.int .i64 1, .int .i64 2] 3 (0, 0)) := by simpa using blk_new ((w.alloc (.cells #[.slice A0 l0_0.length c0, .slice A l.length c] 25)).alloc (.cells #[.slice none 0 0, .slice none 0 0] 25)) (.cells #[.int .i64 1, .int .i64 2] 3)
 have hst : Kd.C (Kd.int .i64) (((w.alloc (.cells #[.slice A0 l0_0.length c0, .slice A l.length c] 25)).alloc (.cells #[.slice none 0 0, .slice none 0 0] 25)).alloc (.cells #[.int .i64 1, .int .i64 2] 3)) (some ⟨w.heap.size + 1 + 1, 0, none⟩) ([1, 2] : List Int).length [1, 2] := C_ints hb2 (by decide) (by
  intro i hi
  match i, hi with
  | 0, _ => exact rfl | 1, _ => exact rfl
  | (i + 2), hi => exact absurd hi (by simp))
 have HI := Aside0.mk (pool_set.calls 46 relS ⟨w.heap.size + 1 + 1, 0, none⟩ [1, 2] 2 (fun k => P0 k ∧ k < w.heap.size) A0 c0 l0_0 (fun k => P1 k ∧ k < w.heap.size) A c l a1 a2 (((w.alloc (.cells #[.slice A0 l0_0.length c0, .slice A l.length c] 25)).alloc (.cells #[.slice none 0 0, .slice none 0 0] 25)).alloc (.cells #[.int .i64 1, .int .i64 2] 3)) (Kd.V_mk (Kd.V_at hs0).2.1 (Kd.F_below (Kd.V_at (Kd.V_bound hs0)).2.2 HB3.out)) (Kd.V_mk (Kd.V_at hs1).2.1 (Kd.F_below (Kd.V_at (Kd.V_bound hs1)).2.2 HB3.out)) hst hl eK46 (fun g cap i l X hO hi => Release1.calls g cap i l X hO hi))
 rw [h] at HI
 have HGE := Aside0.mk (show w.heap.size ≤ w.heap.size + 1 by omega)
 have HSZ : Aside0 (w.heap.size + 1 < (((w.alloc (.cells #[.slice A0 l0_0.length c0, .slice A l.length c] 25)).alloc (.cells #[.slice none 0 0, .slice none 0 0] 25)).alloc (.cells #[.int .i64 1, .int .i64 2] 3)).heap.size) := ⟨by simp⟩
 clear hs0 hs1 hst hb2 h
 go_enter Try.func18, Try.ntmps18
 go_wp2_with (go_at_call 45; refine HI.out.mono ?_; rintro e w4 ⟨v0, v1, rfl, hV0, hV1, hb⟩; obtain ⟨A2, c2, rfl, -, -⟩ := id hV0; obtain ⟨A3, c3, rfl, -, -⟩ := id hV1; have BK3 := Aside0.mk (blk_below HBR.out hb); have hd0 : w4.cell? ⟨w.heap.size + 1, 0, none⟩ = some (.slice none 0 0) := (blk_cell BK3.out 0).trans rfl; have hd1 : w4.cell? ⟨w.heap.size + 1, 1, none⟩ = some (.slice none 0 0) := (blk_cell BK3.out 1).trans rfl; have hfz := fun j => blk_frozen BK3.out j; have HB := Aside0.mk (HB3.out.trans (hb.mono HB3.out.size)); have HV0 := Aside0.mk hV0; have HV1 := Aside0.mk hV1; clear hb hV0 hV1 HI)
 refine bodyPost_ret (results_ct rfl _ _ (w.heap.size + 1) 25 #[.slice A2 r1.length c2, .slice A3 r2.length c3] (0, 0) _ rfl (by refine blk_put (cs := #[.slice A2 r1.length c2, .slice none 0 0]) ?_ 1 _ rfl; refine blk_put (cs := #[.slice none 0 0, .slice none 0 0]) ?_ 0 _ rfl; exact BK3.out) Try.underlying25 rfl (by kernel_rfl)) rfl ?_
 have hok : ∀ k, (((P0 k ∧ k < w.heap.size) ∨ (P1 k ∧ k < w.heap.size)) ∨ (((w.alloc (.cells #[.slice A0 l0_0.length c0, .slice A l.length c] 25)).alloc (.cells #[.slice none 0 0, .slice none 0 0] 25)).alloc (.cells #[.int .i64 1, .int .i64 2] 3)).heap.size ≤ k) → k ≠ w.heap.size + 1 := by
  rintro k ((⟨-, hk⟩ | ⟨-, hk⟩) | hk)
  ·
   omega
  ·
   omega
  ·
   have := HSZ.out; omega
 have hmo : ∀ k, (((P0 k ∧ k < w.heap.size) ∨ (P1 k ∧ k < w.heap.size)) ∨ (((w.alloc (.cells #[.slice A0 l0_0.length c0, .slice A l.length c] 25)).alloc (.cells #[.slice none 0 0, .slice none 0 0] 25)).alloc (.cells #[.int .i64 1, .int .i64 2] 3)).heap.size ≤ k) → ((P0 k ∨ P1 k) ∨ w.heap.size ≤ k) := by
  rintro k ((⟨hk, -⟩ | ⟨hk, -⟩) | hk)
  ·
   exact .inl (.inl hk)
  ·
   exact .inl (.inr hk)
  ·
   exact .inr (by have := HSZ.out; omega)
 exact ⟨_, _, rfl, Kd.V_lower (Kd.V_mono (Kd.V_far (p := ⟨w.heap.size + 1, 1, none⟩) (Kd.V_far (p := ⟨w.heap.size + 1, 0, none⟩) HV0.out hok _) hok _) hmo) HB3.out.size, Kd.V_lower (Kd.V_mono (Kd.V_far (p := ⟨w.heap.size + 1, 1, none⟩) (Kd.V_far (p := ⟨w.heap.size + 1, 0, none⟩) HV1.out hok _) hok _) hmo) HB3.out.size, below_set (below_set HB.out HGE.out) HGE.out⟩

def pool_Opened.f (l0_0 : List Int) (l0_1 : List S29) (a1 a2 : Int) : Option (List Int × List S29 × Int) :=
 if l0_1.length ≤ 4398046511000 then some (setF (atP a1 a2) (fun x => ([1] : List Int).any fun y => x.f2 == y) opnS l0_0 l0_1) else none

set_option maxHeartbeats 8000000 in
set_option maxRecDepth 100000 in
theorem pool_Opened.calls (P0 : Nat → Prop) (A0 : Option Addr) (c0 : Nat) (l0_0 : List Int) (P1 : Nat → Prop) (A : Option Addr) (c : Nat) (l : List S29) (a1 a2 : Int) (r1 : List Int) (r2 : List S29) (r3 : Int) (w : World) (hs0 : Kd.V (Kd.int .i64) 3 w w.heap.size (fun k_ => P0 k_) (.slice A0 l0_0.length c0) l0_0) (hs1 : Kd.V k29 29 w w.heap.size (fun k_ => P1 k_) (.slice A l.length c) l) (h : pool_Opened.f l0_0 l a1 a2 = some (r1, r2, r3)) :
  Calls Try.prog 20 #[.agg #[.slice A0 l0_0.length c0, .slice A l.length c], .int .i64 a1, .int .i64 a2] w fun e w' => ∃ v0_ v1_ : Value, e = .returned (.tuple #[.agg #[v0_, v1_], .int .i64 r3]) ∧ Kd.V (Kd.int .i64) 3 w' w.heap.size (fun k_ => ((P0 k_ ∨ P1 k_) ∨ w.heap.size ≤ k_)) v0_ r1 ∧ Kd.V k29 29 w' w.heap.size (fun k_ => ((P0 k_ ∨ P1 k_) ∨ w.heap.size ≤ k_)) v1_ r2 ∧ Below w.heap.size w w' := by
 have hu25 := Try.underlying25
 have hl : l.length ≤ 4398046511000 := by
  unfold pool_Opened.f at h
  by_cases hh : l.length ≤ 4398046511000
  ·
   exact hh
  ·
   rw [if_neg hh] at h; cases h
 unfold pool_Opened.f at h
 rw [if_pos hl] at h
 have h := Option.some.inj h
 have HB3 : Aside0 (Below w.heap.size w (((w.alloc (.cells #[.slice A0 l0_0.length c0, .slice A l.length c] 25)).alloc (.cells #[.slice none 0 0, .slice none 0 0] 25)).alloc (.cells #[.int .i64 1] 3))) := ⟨below_alloc (below_alloc (below_alloc (Below.refl _ _) _) _) _⟩
 have HBR : Aside0 ((((w.alloc (.cells #[.slice A0 l0_0.length c0, .slice A l.length c] 25)).alloc (.cells #[.slice none 0 0, .slice none 0 0] 25)).alloc (.cells #[.int .i64 1] 3)).heap[w.heap.size + 1]? = some (.cells #[.slice none 0 0, .slice none 0 0] 25 (0, 0))) := ⟨blk_alloc (by simpa using blk_new (w.alloc (.cells #[.slice A0 l0_0.length c0, .slice A l.length c] 25)) (.cells #[.slice none 0 0, .slice none 0 0] 25)) _⟩
 have hb2 : (((w.alloc (.cells #[.slice A0 l0_0.length c0, .slice A l.length c] 25)).alloc (.cells #[.slice none 0 0, .slice none 0 0] 25)).alloc (.cells #[.int .i64 1] 3)).heap[w.heap.size + 1 + 1]? = some (.cells #[.int .i64 1] 3 (0, 0)) := by simpa using blk_new ((w.alloc (.cells #[.slice A0 l0_0.length c0, .slice A l.length c] 25)).alloc (.cells #[.slice none 0 0, .slice none 0 0] 25)) (.cells #[.int .i64 1] 3)
 have hst : Kd.C (Kd.int .i64) (((w.alloc (.cells #[.slice A0 l0_0.length c0, .slice A l.length c] 25)).alloc (.cells #[.slice none 0 0, .slice none 0 0] 25)).alloc (.cells #[.int .i64 1] 3)) (some ⟨w.heap.size + 1 + 1, 0, none⟩) ([1] : List Int).length [1] := C_ints hb2 (by decide) (by
  intro i hi
  match i, hi with
  | 0, _ => exact rfl
  | (i + 1), hi => exact absurd hi (by simp))
 have HI := Aside0.mk (pool_set.calls 48 opnS ⟨w.heap.size + 1 + 1, 0, none⟩ [1] 1 (fun k => P0 k ∧ k < w.heap.size) A0 c0 l0_0 (fun k => P1 k ∧ k < w.heap.size) A c l a1 a2 (((w.alloc (.cells #[.slice A0 l0_0.length c0, .slice A l.length c] 25)).alloc (.cells #[.slice none 0 0, .slice none 0 0] 25)).alloc (.cells #[.int .i64 1] 3)) (Kd.V_mk (Kd.V_at hs0).2.1 (Kd.F_below (Kd.V_at (Kd.V_bound hs0)).2.2 HB3.out)) (Kd.V_mk (Kd.V_at hs1).2.1 (Kd.F_below (Kd.V_at (Kd.V_bound hs1)).2.2 HB3.out)) hst hl eK48 (fun g cap i l X hO hi => Opened1.calls g cap i l X hO hi))
 rw [h] at HI
 have HGE := Aside0.mk (show w.heap.size ≤ w.heap.size + 1 by omega)
 have HSZ : Aside0 (w.heap.size + 1 < (((w.alloc (.cells #[.slice A0 l0_0.length c0, .slice A l.length c] 25)).alloc (.cells #[.slice none 0 0, .slice none 0 0] 25)).alloc (.cells #[.int .i64 1] 3)).heap.size) := ⟨by simp⟩
 clear hs0 hs1 hst hb2 h
 go_enter Try.func20, Try.ntmps20
 go_wp2_with (go_at_call 45; refine HI.out.mono ?_; rintro e w4 ⟨v0, v1, rfl, hV0, hV1, hb⟩; obtain ⟨A2, c2, rfl, -, -⟩ := id hV0; obtain ⟨A3, c3, rfl, -, -⟩ := id hV1; have BK3 := Aside0.mk (blk_below HBR.out hb); have hd0 : w4.cell? ⟨w.heap.size + 1, 0, none⟩ = some (.slice none 0 0) := (blk_cell BK3.out 0).trans rfl; have hd1 : w4.cell? ⟨w.heap.size + 1, 1, none⟩ = some (.slice none 0 0) := (blk_cell BK3.out 1).trans rfl; have hfz := fun j => blk_frozen BK3.out j; have HB := Aside0.mk (HB3.out.trans (hb.mono HB3.out.size)); have HV0 := Aside0.mk hV0; have HV1 := Aside0.mk hV1; clear hb hV0 hV1 HI)
 refine bodyPost_ret (results_ct rfl _ _ (w.heap.size + 1) 25 #[.slice A2 r1.length c2, .slice A3 r2.length c3] (0, 0) _ rfl (by refine blk_put (cs := #[.slice A2 r1.length c2, .slice none 0 0]) ?_ 1 _ rfl; refine blk_put (cs := #[.slice none 0 0, .slice none 0 0]) ?_ 0 _ rfl; exact BK3.out) Try.underlying25 rfl (by kernel_rfl)) rfl ?_
 have hok : ∀ k, (((P0 k ∧ k < w.heap.size) ∨ (P1 k ∧ k < w.heap.size)) ∨ (((w.alloc (.cells #[.slice A0 l0_0.length c0, .slice A l.length c] 25)).alloc (.cells #[.slice none 0 0, .slice none 0 0] 25)).alloc (.cells #[.int .i64 1] 3)).heap.size ≤ k) → k ≠ w.heap.size + 1 := by
  rintro k ((⟨-, hk⟩ | ⟨-, hk⟩) | hk)
  ·
   omega
  ·
   omega
  ·
   have := HSZ.out; omega
 have hmo : ∀ k, (((P0 k ∧ k < w.heap.size) ∨ (P1 k ∧ k < w.heap.size)) ∨ (((w.alloc (.cells #[.slice A0 l0_0.length c0, .slice A l.length c] 25)).alloc (.cells #[.slice none 0 0, .slice none 0 0] 25)).alloc (.cells #[.int .i64 1] 3)).heap.size ≤ k) → ((P0 k ∨ P1 k) ∨ w.heap.size ≤ k) := by
  rintro k ((⟨hk, -⟩ | ⟨hk, -⟩) | hk)
  ·
   exact .inl (.inl hk)
  ·
   exact .inl (.inr hk)
  ·
   exact .inr (by have := HSZ.out; omega)
 exact ⟨_, _, rfl, Kd.V_lower (Kd.V_mono (Kd.V_far (p := ⟨w.heap.size + 1, 1, none⟩) (Kd.V_far (p := ⟨w.heap.size + 1, 0, none⟩) HV0.out hok _) hok _) hmo) HB3.out.size, Kd.V_lower (Kd.V_mono (Kd.V_far (p := ⟨w.heap.size + 1, 1, none⟩) (Kd.V_far (p := ⟨w.heap.size + 1, 0, none⟩) HV1.out hok _) hok _) hmo) HB3.out.size, below_set (below_set HB.out HGE.out) HGE.out⟩
end Go.Proofs.Ytgiofigjnchfeaa.Q
