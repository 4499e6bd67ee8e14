/- Laws of this session's own, over the printed words: flat kinds (elements that lead to no other row), an append to a row that is full. -/
import Derived.Test.YtobdcmgdodahgaaDoorWMore
namespace Go.Proofs.YtobdcmgdodahgaaDoor.Q
open Go.RowKit Go.Proofs.YtobdcmgdodahgaaDoorW.PrintWords Go.Proofs.YtobdcmgdodahgaaDoorW.PrintLast Go.Proofs.YtobdcmgdodahgaaDoorW.PrintMore
set_option linter.unusedVariables false
set_option linter.unusedSimpArgs false

theorem below_drewN0 (w : World) (n : Nat) : Below w.heap.size w (w.drewN n) := pw_below_drewN (Below.refl _ _) n
/-- A call of a function that has a body enters it. -/
theorem enters_at {P : Program} {f : FuncId} {fn : Func} {c : Code} (hf : P.funcs[f]? = some fn) (hname : (fn.name == "runtime.NumGoroutine") = false) (hb : fn.body = some c) (args : Array Value) (w : World) : (callFunc f args).run P w = .ok (.enter f args) w := by
  have h1 : fn.name ≠ "runtime.NumGoroutine" := by simpa using hname
  simp [callFunc, hf, h1, hb, mark]
/-- Elements that lead to no other row. -/
def Flat {α : Type} (d : Kd α) : Prop := ∀ (w w' : World) (base : Nat) (ok : Nat → Prop) (x : α) (cs : List Value), d.K w x cs → d.M w' base ok x cs
theorem Flat.int (k : IntKind) : Flat (Kd.int k) := fun _ _ _ _ _ _ h => h
theorem Flat.bool : Flat Kd.bool := fun _ _ _ _ _ _ h => h
theorem Flat.string : Flat Kd.string := fun _ _ _ _ _ _ h => h
theorem Flat.pair {α β : Type} {a : Kd α} {b : Kd β} (ha : Flat a) (hb : Flat b) : Flat (Kd.pair a b) := by
  rintro w w' base ok x cs ⟨c0, c1, rfl, h0, h1⟩
  exact ⟨c0, c1, rfl, ha w w' base ok _ _ h0, hb w w' base ok _ _ h1⟩
theorem Flat.iso {α β : Type} {d : Kd α} (hd : Flat d) (f : β → α) : Flat (Kd.iso d f) := fun w w' base ok x cs h => hd w w' base ok (f x) cs h
theorem Flat.C {α : Type} {d : Kd α} (hd : Flat d) {w w' : World} {A : Option Addr} {n : Nat} {xs : List α} (h : d.C w A n xs) (hc : ∀ a v, w.cell? a = some v → w'.cell? a = some v) : d.C w' A n xs :=
  ⟨h.1, h.2.1, fun hn => by
    obtain ⟨ad, e, hx⟩ := h.2.2 hn
    refine ⟨ad, e, fun j p hj => ?_⟩
    obtain ⟨c, hl, hk, hcc⟩ := hx j p hj
    exact ⟨c, hl, d.K_of_M (hd w w' 0 (fun _ => True) _ _ hk), fun i u hu => hc _ _ (hcc i u hu)⟩⟩
/-- A flat row's own, out of its cells. -/
theorem flat_R {α : Type} {d : Kd α} (hd : Flat d) {e base : Nat} {w w0 : World} {v : Value} {xs : List α} {inner : List Value} (ho : w.ownsRow base e d.sz v xs.length inner) (hr : Reps (d.K w0) d.sz xs inner) : d.R e w base (fun _ => True) v xs :=
  ⟨fun _ _ => trivial, inner, ho, hr.imp_ (fun p c h => hd w0 w base _ p c h)⟩
theorem Reps.one {α : Type} {R : α → List Value → Prop} {size : Nat} {p : α} {c : List Value} (hp : R p c) (hc : c.length = size) : Reps R size [p] c := by
  have := Reps.snoc (Reps.none R size) hp hc
  simpa using this

/-- '[]T{}'. -/
theorem R_lit0 {α : Type} (d : Kd α) (e : Nat) (w : World) : d.R e (w.alloc (.cells #[] e)) w.heap.size (fun _ => True) (.slice (some ⟨w.heap.size, 0, none⟩) 0 0) [] :=
  ⟨fun _ _ => trivial, OwnRow.lit (R := d.M _ w.heap.size _) (ps := []) (inner := []) w w.heap.size (Reps.none _ _) (Nat.le_refl _) (by simp)⟩

/-- What lies behind the first m is written: the first m stay. -/
theorem R_cut_clear {α : Type} {d : Kd α} {e base g n cap m : Nat} {ok : Nat → Prop} {w : World} {xs : List α} (hd : Flat d) (h : d.R e w base ok (.slice (some ⟨g, 0, none⟩) n cap) xs) (hm : m ≤ xs.length) (vs : List Value) (hv : m * d.sz + vs.length ≤ cap * d.sz) :
    d.R e (w.setCells g (m * d.sz) vs) base ok (.slice (some ⟨g, 0, none⟩) m cap) (xs.take m) ∧ w.grownBy (w.setCells g (m * d.sz) vs) (some g) := by
  have h1 := Kd.R_take h hm
  obtain ⟨hok, inner, ho, hr⟩ := h1
  have hl : (xs.take m).length = m := by rw [List.length_take]; omega
  rw [hl] at ho
  obtain ⟨hil, h2⟩ := ho
  rcases h2 with ⟨he, _⟩ | ⟨g', cap', cur, he, hb, hh, hnc, hcm, hcs, ht⟩
  · injection he with he
    cases he
  · injection he with he1 _ he3
    injection he1 with he1
    injection he1 with he1
    subst he1
    subst he3
    obtain ⟨cur', hh', hsz', htl'⟩ := setCells_row vs (m * d.sz) w cur hh (by rw [hcs]; exact hv)
    have hsame := setCells_same g vs (m * d.sz) w
    refine ⟨⟨hok, inner, ?_, hr.imp_ (fun p c hp => hd w _ base _ p c (d.K_of_M hp))⟩, ⟨hsame.1, hsame.2.1, hsame.2.2.1, by rw [hsame.2.2.2]; exact Nat.le_refl _, fun k hk hne => setCells_far vs _ k (fun e => hne (by rw [e]))⟩⟩
    rw [hl]
    refine ⟨hil, .inr ⟨g, cap, cur', rfl, hb, hh', hnc, hcm, by rw [hsz', hcs], ?_⟩⟩
    rw [← ht, htl', List.append_assoc, List.take_append_of_le_length (by rw [List.length_take, Array.length_toList, hcs]; have := Nat.mul_le_mul_right d.sz hnc; omega), List.take_take, Nat.min_self]

section
variable {P : Program} {ops : Array Oper} {rest : List Oper} {o : Oper} {a : Act} {Q : Exit → Act → World → Prop} {α : Type}
/-- append(xs[:n:n], p), xs read: a new row. Behind 'at_builtin'; the goal's world is W with the variadic's box. -/
theorem wp_append_full (d : Kd α) (hd : Flat d) {W : World} (hgd : o.guard = none) (s x : Operand) (t e : TypeId) (z : Value) (bytes : Nat)
    (ho : o.op = .call { callee := .builtin .append, args := #[s, x], argTypes := #[t, t] })
    (ht : P.underlying t = some (.slice e)) (hinfo : (P.info? e).map (fun i => (i.zero, i.size, i.bytes)) = some (some z, d.sz, bytes)) (hz : z.cells.size = d.sz) (hs0 : 0 < d.sz) (hb0 : 0 < bytes)
    (A : Option Addr) (xs : List α) (p : α) (cs : List Value) (hs : a.eval s = .slice A xs.length xs.length) (hx : a.eval x = .slice (some ⟨W.heap.size, 0, none⟩) 1 1) (hp : d.K W p cs)
    (hC : d.C W A xs.length xs) (hl : (xs.length + 1) * bytes ≤ 140737488355328)
    (h : ∀ v1 w1, d.R e w1 W.heap.size (fun _ => True) v1 (xs ++ [p]) → Below W.heap.size W w1 → wpList P ops Q rest (a.put o.dst v1) w1) :
    wpList P ops Q (o :: rest) a (W.alloc (.cells cs.toArray e)) := by
  obtain ⟨i0, hi, hzz⟩ := Option.map_eq_some_iff.1 hinfo
  simp only [Prod.mk.injEq] at hzz
  obtain ⟨hz0, hz1, hz2⟩ := hzz
  have hlen : xs.length + 1 ≤ 140737488355328 := Nat.le_trans (Nat.le_mul_of_pos_right _ hb0) hl
  have hcl := d.K_len hp
  have hbW : Below W.heap.size W (W.alloc (.cells cs.toArray e)) := below_alloc (Below.refl _ _) _
  have hnew : ∀ j u, cs[j]? = some u → (W.alloc (.cells cs.toArray e)).cell? ((⟨W.heap.size, 0, none⟩ : Addr).add j) = some u := by
    intro j u hu
    have := World.news_of_block (cs := cs.toArray) (t := e) (fr := (0, 0)) (heap_alloc_new W (.cells cs.toArray e)) j u
    exact this (by simpa using hu)
  have hC' := Kd.C_below hC hbW
  have hold : ∃ olds : List Value, Reps (d.K W) d.sz xs olds ∧ ∀ b, A = some b → ∀ j u, olds[j]? = some u → (W.alloc (.cells cs.toArray e)).cell? (b.add j) = some u := by
    rcases A with _ | ad
    · have h0 : xs.length = 0 := by
        rcases Nat.eq_zero_or_pos xs.length with h0 | h0
        · exact h0
        · obtain ⟨ad, h, _⟩ := hC.2.2 h0
          cases h
      obtain rfl : xs = [] := List.eq_nil_of_length_eq_zero h0
      exact ⟨[], Reps.none _ _, fun b hb => by cases hb⟩
    · obtain ⟨news, hnr, hnc⟩ := ReadsRow.inner_ hC'
      refine ⟨news, hnr.imp_ (fun p c hp => d.K_of_M (hd _ W 0 (fun _ => True) p c hp)), fun b hb => ?_⟩
      cases hb
      exact hnc
  obtain ⟨olds, hor, hoc⟩ := hold
  refine wpList_append_grows (W.alloc (.cells cs.toArray e)) hgd s x t ho e i0 z d.sz bytes ht hi hz0 hz1 hz2 hz hs0 A xs.length xs.length olds hs ?_ hor.1 hoc ⟨W.heap.size, 0, none⟩ 1 1 cs hx (by omega) hnew (d.K_one hp) (by omega) (by simp only [maxLen]; omega) hl ?_
  · intro hA
    subst hA
    have h0 : xs.length = 0 := by
      rcases Nat.eq_zero_or_pos xs.length with h0 | h0
      · exact h0
      · obtain ⟨ad, h, _⟩ := hC.2.2 h0
        cases h
    exact ⟨h0, h0⟩
  · intro v' w' hown hg
    have hb1 : Below W.heap.size W w' := hbW.grown hg (by simp) (by simp)
    refine h v' w' (flat_R hd (w0 := W) (inner := olds ++ cs) ?_ (Kd.reps_append hor (Reps.one hp hcl))) hb1
    rw [List.length_append, List.length_singleton]
    exact own_weaken hown (by simp)
end
end Go.Proofs.YtobdcmgdodahgaaDoor.Q
