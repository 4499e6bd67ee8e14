/- names.Add: what it computes, and that its call does so. -/
import Derived.Test.YtobdcmgdodahgaaDoorH37
import Derived.Test.YtobdcmgdodahgaaDoorH20
import Derived.Deep.RegionLawGrows
import Derived.Deep.RegionHeld3
namespace Go.Proofs.YtobdcmgdodahgaaDoor.Q
open Go.RowKit Go.Proofs.YtobdcmgdodahgaaDoorW.PrintWords Go.Proofs.YtobdcmgdodahgaaDoorW.PrintLast Go.Proofs.YtobdcmgdodahgaaDoorW.PrintMore
set_option linter.unusedVariables false
set_option linter.unusedSimpArgs false

section
variable {P : Program}
theorem results_cct {fn : Func} {p p' u : Tmp} {ty ty' : TypeId} (h : fn.results = #[.cell p ty, .cell p' ty', .tmp u]) (tmps : Array Value) (w : World) (g g' : Nat) (t t' : TypeId) (cs cs' : Array Value) (fr fr' : Nat × Nat) (d d' : TypeDesc)
    (hp : tmps.getD p undef = .pointer (some ⟨g, 0, none⟩)) (hg : w.heap[g]? = some (.cells cs t fr))
    (hu : P.underlying ty = some d) (hd : (match d with | .struct _ | .array _ _ => true | _ => false) = true) (hi : (P.info? ty).map (·.size) = some cs.size)
    (hp' : tmps.getD p' undef = .pointer (some ⟨g', 0, none⟩)) (hg' : w.heap[g']? = some (.cells cs' t' fr'))
    (hu' : P.underlying ty' = some d') (hd' : (match d' with | .struct _ | .array _ _ => true | _ => false) = true) (hi' : (P.info? ty').map (·.size) = some cs'.size) :
    (results fn tmps).run P w = .ok (.tuple #[.agg cs, .agg cs', tmps.getD u undef]) w := by
  have h1 : tmps[p]?.getD undef = .pointer (some ⟨g, 0, none⟩) := by simpa using hp
  have h2 : tmps[p']?.getD undef = .pointer (some ⟨g', 0, none⟩) := by simpa using hp'
  simp [results, h, h1, h2, asAddr, run_loadVar_row w g t ty cs fr d hg hu hd hi, run_loadVar_row w g' t' ty' cs' fr' d' hg' hu' hd' hi']
end

section
variable {P : Program} {ops : Array Oper} {o : Oper} {a : Act} {Q : Exit → Act → World → Prop} {K : Act → World → Prop} {E : Prop} {α : Type}
/-- append(xs[:n:n], p), xs read, as a step of a region that draws: a new row. -/
theorem step_append_full (d : Kd α) (hd : Flat d) {W : World} (hgd : o.guard = none) (s x : Operand) (t e : TypeId) (z : Value) (bytes : Nat)
    (ho : o.op = .call { callee := .builtin .append, args := #[s, x], argTypes := #[t, t] })
    (ht : P.underlying t = some (.slice e)) (hinfo : (P.info? e).map (fun i => (i.zero, i.size, i.bytes)) = some (some z, d.sz, bytes)) (hz : z.cells.size = d.sz) (hs0 : 0 < d.sz) (hb0 : 0 < bytes)
    (A : Option Addr) (xs : List α) (p : α) (cs : List Value) (hs : a.eval s = .slice A xs.length xs.length) (hx : a.eval x = .slice (some ⟨W.heap.size, 0, none⟩) 1 1) (hp : d.K W p cs)
    (hC : d.C W A xs.length xs) (hl : (xs.length + 1) * bytes ≤ 140737488355328)
    (h : ∀ v1 w1, d.R e w1 W.heap.size (fun _ => True) v1 (xs ++ [p]) → Below W.heap.size W w1 → K (a.put o.dst v1) w1) :
    if Region.wanted o (yielded ops a.tmps) = true then Oper.wp P o a (W.alloc (.cells cs.toArray e)) K Q else E := by
  obtain ⟨i0, hi, hzz⟩ := Option.map_eq_some_iff.1 hinfo
  simp only [Prod.mk.injEq] at hzz
  obtain ⟨hz0, hz1, hz2⟩ := hzz
  have hlen : xs.length + 1 ≤ 140737488355328 := Nat.le_trans (Nat.le_mul_of_pos_right _ hb0) hl
  have hcl := d.K_len hp
  have hbW : Below W.heap.size W (W.alloc (.cells cs.toArray e)) := below_alloc (Below.refl _ _) _
  have hnew : ∀ j u, cs[j]? = some u → (W.alloc (.cells cs.toArray e)).cell? ((⟨W.heap.size, 0, none⟩ : Addr).add j) = some u := by
    intro j u hu
    have := World.news_of_block (cs := cs.toArray) (t := e) (fr := (0, 0)) (heap_alloc_new W (.cells cs.toArray e)) j u
    exact this (by simpa using hu)
  have hC' := Kd.C_below hC hbW
  have hold : ∃ olds : List Value, Reps (d.K W) d.sz xs olds ∧ ∀ b, A = some b → ∀ j u, olds[j]? = some u → (W.alloc (.cells cs.toArray e)).cell? (b.add j) = some u := by
    rcases A with _ | ad
    · have h0 : xs.length = 0 := by
        rcases Nat.eq_zero_or_pos xs.length with h0 | h0
        · exact h0
        · obtain ⟨ad, h, _⟩ := hC.2.2 h0
          cases h
      obtain rfl : xs = [] := List.eq_nil_of_length_eq_zero h0
      exact ⟨[], Reps.none _ _, fun b hb => by cases hb⟩
    · obtain ⟨news, hnr, hnc⟩ := ReadsRow.inner_ hC'
      refine ⟨news, hnr.imp_ (fun p c hp => d.K_of_M (hd _ W 0 (fun _ => True) p c hp)), fun b hb => ?_⟩
      cases hb
      exact hnc
  obtain ⟨olds, hor, hoc⟩ := hold
  refine step_append_grows hgd s x t ho e i0 z d.sz bytes ht hi hz0 hz1 hz2 hz hs0 A xs.length xs.length olds hs ?_ hor.1 hoc ⟨W.heap.size, 0, none⟩ 1 1 cs hx (by omega) hnew (d.K_one hp) (by omega) (by simp only [maxLen]; omega) hl ?_
  · intro hA
    subst hA
    have h0 : xs.length = 0 := by
      rcases Nat.eq_zero_or_pos xs.length with h0 | h0
      · exact h0
      · obtain ⟨ad, h, _⟩ := hC.2.2 h0
        cases h
    exact ⟨h0, h0⟩
  · intro v' w' hown hg
    have hb1 : Below W.heap.size W w' := hbW.grown hg (by simp) (by simp)
    refine h v' w' (flat_R hd (w0 := W) (inner := olds ++ cs) ?_ (Kd.reps_append hor (Reps.one hp hcl))) hb1
    rw [List.length_append, List.length_singleton]
    exact own_weaken hown (by simp)
end

/-- A name that is made up. -/
def mkName (made : Int) : ByteArray := (⟨#[97, 109, 113, 46, 99]⟩ : ByteArray) ++ ⟨(Lib.decDigits made.toNat).toArray⟩
/-- The first one from made on that isn't there, and what comes behind it. -/
def mkLoop (l : List S31) : Nat → Int → Option (ByteArray × Int)
  | 0, _ => none
  | k + 1, made => if 0 ≤ made ∧ made < 18446744073709551616 then (if (findR (mineP (mkName made)) l).2 = true then mkLoop l k (IntKind.u64.wrap (made + 1)) else some (mkName made, IntKind.u64.wrap (made + 1))) else none
def addTail (a0_0 a0_1 : Int) (l : List S31) (free : Bool) (mine : ByteArray) (made : Int) : Option (Int × Int × List S31 × ByteArray × ByteArray × Bool × Int) :=
  (names_Up.f a0_0 mine).bind fun u =>
    if u.2 = 0 then (if u.1.toList = [] then none else if l.length ≤ 3518437208880 then some (a0_0, made, l ++ [⟨mine, u.1, free⟩], mine, u.1, free, 0) else none)
    else some (a0_0, a0_1, l, ⟨#[]⟩, ⟨#[]⟩, false, u.2)
def names_Add.f (a0_0 a0_1 : Int) (l : List S31) (mine : ByteArray) (free : Bool) (most : Int) : Option (Int × Int × List S31 × ByteArray × ByteArray × Bool × Int) :=
  if most ≤ (l.length : Int) then some (a0_0, a0_1, l, ⟨#[]⟩, ⟨#[]⟩, false, 12)
  else if mine.toList = [] then (mkLoop l (l.length + 1) a0_1).bind fun p => addTail a0_0 a0_1 l free p.1 p.2
  else if (findR (mineP mine) l).2 = true then some (a0_0, a0_1, l, ⟨#[]⟩, ⟨#[]⟩, false, 14)
  else addTail a0_0 a0_1 l free mine a0_1

/-- What the call's own blocks hold. -/
structure AddW (w W : World) (a0_0 a0_1 made : Int) (A : Option Addr) (n c : Nat) : Prop where
  b4 : W.heap[w.heap.size]? = some (.cells #[.int .i64 a0_0, .int .u64 a0_1, .slice A n c] 25 (0, 0))
  b8 : W.heap[w.heap.size + 1]? = some (.cells #[.int .i64 0, .int .u64 0, .slice none 0 0] 25 (0, 0))
  b9 : W.heap[w.heap.size + 1 + 1]? = some (.cells #[.string ⟨#[]⟩, .string ⟨#[]⟩, .bool false] 31 (0, 0))
  b11 : W.heap[w.heap.size + 1 + 1 + 1]? = some (.cells #[.int .i64 a0_0, .int .u64 made, .slice A n c] 25 (0, 0))
  hb : Below w.heap.size w W
section
variable {w W W' : World} {a0_0 a0_1 made : Int} {A : Option Addr} {n c : Nat}
theorem AddW.below (h : AddW w W a0_0 a0_1 made A n c) (hb : Below W.heap.size W W') : AddW w W' a0_0 a0_1 made A n c :=
  ⟨blk_below h.b4 hb, blk_below h.b8 hb, blk_below h.b9 hb, blk_below h.b11 hb, h.hb.trans (hb.mono h.hb.size)⟩
theorem AddW.alloc (h : AddW w W a0_0 a0_1 made A n c) (o : Obj) : AddW w (W.alloc o) a0_0 a0_1 made A n c := h.below (below_alloc (Below.refl _ _) o)
theorem AddW.set (h : AddW w W a0_0 a0_1 made A n c) (m : Int) : AddW w (W.setCell ⟨w.heap.size + 1 + 1 + 1, 1, none⟩ (.int .u64 m)) a0_0 a0_1 m A n c :=
  ⟨blk_far (p := ⟨w.heap.size + 1 + 1 + 1, 1, none⟩) h.b4 (by show w.heap.size ≠ w.heap.size + 1 + 1 + 1; omega) _, blk_far (p := ⟨w.heap.size + 1 + 1 + 1, 1, none⟩) h.b8 (by show w.heap.size + 1 ≠ w.heap.size + 1 + 1 + 1; omega) _, blk_far (p := ⟨w.heap.size + 1 + 1 + 1, 1, none⟩) h.b9 (by show w.heap.size + 1 + 1 ≠ w.heap.size + 1 + 1 + 1; omega) _, blk_put h.b11 1 _ rfl, below_set h.hb (by show w.heap.size ≤ w.heap.size + 1 + 1 + 1; omega)⟩
theorem AddW.c4 (h : AddW w W a0_0 a0_1 made A n c) : W.cell? ⟨w.heap.size, 0, none⟩ = some (.int .i64 a0_0) ∧ W.cell? ⟨w.heap.size, 1, none⟩ = some (.int .u64 a0_1) ∧ W.cell? ⟨w.heap.size, 2, none⟩ = some (.slice A n c) :=
  ⟨(blk_cell h.b4 0).trans rfl, (blk_cell h.b4 1).trans rfl, (blk_cell h.b4 2).trans rfl⟩
theorem AddW.c8 (h : AddW w W a0_0 a0_1 made A n c) : W.cell? ⟨w.heap.size + 1, 0, none⟩ = some (.int .i64 0) ∧ W.cell? ⟨w.heap.size + 1, 1, none⟩ = some (.int .u64 0) ∧ W.cell? ⟨w.heap.size + 1, 2, none⟩ = some (.slice none 0 0) ∧ (∀ j, W.frozen? ⟨w.heap.size + 1, j, none⟩ = false) :=
  ⟨(blk_cell h.b8 0).trans rfl, (blk_cell h.b8 1).trans rfl, (blk_cell h.b8 2).trans rfl, fun j => blk_frozen h.b8 j⟩
theorem AddW.c9 (h : AddW w W a0_0 a0_1 made A n c) : W.cell? ⟨w.heap.size + 1 + 1, 0, none⟩ = some (.string ⟨#[]⟩) ∧ W.cell? ⟨w.heap.size + 1 + 1, 1, none⟩ = some (.string ⟨#[]⟩) ∧ W.cell? ⟨w.heap.size + 1 + 1, 2, none⟩ = some (.bool false) ∧ (∀ j, W.frozen? ⟨w.heap.size + 1 + 1, j, none⟩ = false) :=
  ⟨(blk_cell h.b9 0).trans rfl, (blk_cell h.b9 1).trans rfl, (blk_cell h.b9 2).trans rfl, fun j => blk_frozen h.b9 j⟩
theorem AddW.c11 (h : AddW w W a0_0 a0_1 made A n c) : W.cell? ⟨w.heap.size + 1 + 1 + 1, 0, none⟩ = some (.int .i64 a0_0) ∧ W.cell? ⟨w.heap.size + 1 + 1 + 1, 1, none⟩ = some (.int .u64 made) ∧ W.cell? ⟨w.heap.size + 1 + 1 + 1, 2, none⟩ = some (.slice A n c) ∧ (∀ j, W.frozen? ⟨w.heap.size + 1 + 1 + 1, j, none⟩ = false) :=
  ⟨(blk_cell h.b11 0).trans rfl, (blk_cell h.b11 1).trans rfl, (blk_cell h.b11 2).trans rfl, fun j => blk_frozen h.b11 j⟩
end
/-- The world behind 'return n, x, e'. -/
def finW (W : World) (B1 B2 : Nat) (u0 u1 u2 v0 v1 v2 : Value) : World :=
  (((((W.setCell ⟨B1, 0, none⟩ u0).setCell ⟨B1, 1, none⟩ u1).setCell ⟨B1, 2, none⟩ u2).setCell ⟨B2, 0, none⟩ v0).setCell ⟨B2, 1, none⟩ v1).setCell ⟨B2, 2, none⟩ v2
theorem finW_b1 {W : World} {B1 B2 : Nat} {p0 p1 p2 : Value} {t : TypeId} (b1 : W.heap[B1]? = some (.cells #[p0, p1, p2] t (0, 0))) (hne : B1 ≠ B2) (u0 u1 u2 v0 v1 v2 : Value) : (finW W B1 B2 u0 u1 u2 v0 v1 v2).heap[B1]? = some (.cells #[u0, u1, u2] t (0, 0)) := by
  unfold finW
  refine blk_far (blk_far (blk_far ?_ hne _) hne _) hne _
  exact blk_put (cs := #[u0, u1, p2]) (blk_put (cs := #[u0, p1, p2]) (blk_put (cs := #[p0, p1, p2]) b1 0 _ rfl) 1 _ rfl) 2 _ rfl
theorem finW_b2 {W : World} {B1 B2 : Nat} {q0 q1 q2 : Value} {t : TypeId} (b2 : W.heap[B2]? = some (.cells #[q0, q1, q2] t (0, 0))) (hne : B1 ≠ B2) (u0 u1 u2 v0 v1 v2 : Value) : (finW W B1 B2 u0 u1 u2 v0 v1 v2).heap[B2]? = some (.cells #[v0, v1, v2] t (0, 0)) := by
  unfold finW
  refine blk_put (cs := #[v0, v1, q2]) (blk_put (cs := #[v0, q1, q2]) (blk_put (cs := #[q0, q1, q2]) ?_ 0 _ rfl) 1 _ rfl) 2 _ rfl
  exact blk_far (blk_far (blk_far b2 hne.symm _) hne.symm _) hne.symm _
theorem finW_below {w W : World} {B1 B2 : Nat} (h : Below w.heap.size w W) (h1 : w.heap.size ≤ B1) (h2 : w.heap.size ≤ B2) (u0 u1 u2 v0 v1 v2 : Value) : Below w.heap.size w (finW W B1 B2 u0 u1 u2 v0 v1 v2) :=
  below_set (below_set (below_set (below_set (below_set (below_set h h1) h1) h1) h2) h2) h2

set_option maxHeartbeats 16000000 in
set_option maxRecDepth 100000 in
theorem names_Add.calls (a0_0 a0_1 : Int) (P0_2_ : Nat → Prop) (A0_2 : Option Addr) (c0_2 : Nat) (l0_2 : List S31) (a1 : ByteArray) (a2 : Bool) (a3 : Int) (r1 r2 : Int) (r3 : List S31) (r4 r5 : ByteArray) (r6 : Bool) (r7 : Int) (w : World) (hs0_2 : Kd.V k31 31 w w.heap.size (fun k_ => P0_2_ k_) (.slice A0_2 l0_2.length c0_2) l0_2) (hT : Aside0 (Tabs w)) (h : names_Add.f a0_0 a0_1 l0_2 a1 a2 a3 = some (r1, r2, r3, r4, r5, r6, r7)) :
    Calls Tryd.prog 11 #[.agg #[.int .i64 a0_0, .int .u64 a0_1, .slice A0_2 l0_2.length c0_2], .string a1, .bool a2, .int .i64 a3] w fun e w' => ∃ v2_ : Value, e = .returned (.tuple #[.agg #[.int .i64 r1, .int .u64 r2, v2_], .agg #[.string r4, .string r5, .bool r6], .int .i64 r7]) ∧ Kd.V k31 31 w' w.heap.size (fun k_ => (P0_2_ k_ ∨ w.heap.size ≤ k_)) v2_ r3 ∧ Below w.heap.size w w' := by
  have hu25 := Tryd.underlying25
  have hu31 := Tryd.underlying31
  have HV := Kd.V_at hs0_2
  have HC := Aside0.mk (Kd.F_now HV.2.2)
  have hcl : l0_2.length ≤ c0_2 := HV.2.1
  have hm : l0_2.length ≤ 9223372036854775807 := Kd.F_max HV.2.2
  have HS := Aside0.mk hs0_2
  have H := Aside0.mk h
  clear hs0_2 HV h
  have HTO : Aside0 (∀ (m : ByteArray) (X : World), Below w.heap.size w X → ∀ b : Bool, (findR (mineP m) l0_2).2 = b → Calls Tryd.prog 13 #[.agg #[.int .i64 a0_0, .int .u64 a0_1, .slice A0_2 l0_2.length c0_2], .string m] X fun e w' => ∃ (t1 t2 : ByteArray) (t3 : Bool), e = .returned (.tuple #[.agg #[.string t1, .string t2, .bool t3], .bool b]) ∧ Below X.heap.size X w') :=
    ⟨fun m X hX b hb => hb ▸ (names_To.calls a0_0 a0_1 A0_2 c0_2 l0_2 m _ _ _ _ X (Kd.C_below HC.out hX) hcl rfl).mono fun e w' ⟨he, hb⟩ => ⟨_, _, _, he, hb⟩⟩
  have HA4 : Aside0 (AddW w ((((w.alloc (.cells #[.int .i64 a0_0, .int .u64 a0_1, .slice A0_2 l0_2.length c0_2] 25)).alloc (.cells #[.int .i64 0, .int .u64 0, .slice none 0 0] 25)).alloc (.cells #[.string ⟨#[]⟩, .string ⟨#[]⟩, .bool false] 31)).alloc (.cells #[.int .i64 a0_0, .int .u64 a0_1, .slice A0_2 l0_2.length c0_2] 25)) a0_0 a0_1 a0_1 A0_2 l0_2.length c0_2) := by
    refine ⟨blk_alloc (blk_alloc (blk_alloc (blk_new _ _) _) _) _, ?_, ?_, ?_, below_alloc (below_alloc (below_alloc (below_alloc (Below.refl _ _) _) _) _) _⟩
    · exact blk_alloc (blk_alloc (by simpa using blk_new (w.alloc (.cells #[.int .i64 a0_0, .int .u64 a0_1, .slice A0_2 l0_2.length c0_2] 25)) (.cells #[.int .i64 0, .int .u64 0, .slice none 0 0] 25)) _) _
    · exact blk_alloc (by simpa using blk_new ((w.alloc (.cells #[.int .i64 a0_0, .int .u64 a0_1, .slice A0_2 l0_2.length c0_2] 25)).alloc (.cells #[.int .i64 0, .int .u64 0, .slice none 0 0] 25)) (.cells #[.string ⟨#[]⟩, .string ⟨#[]⟩, .bool false] 31)) _
    · simpa using blk_new (((w.alloc (.cells #[.int .i64 a0_0, .int .u64 a0_1, .slice A0_2 l0_2.length c0_2] 25)).alloc (.cells #[.int .i64 0, .int .u64 0, .slice none 0 0] 25)).alloc (.cells #[.string ⟨#[]⟩, .string ⟨#[]⟩, .bool false] 31)) (.cells #[.int .i64 a0_0, .int .u64 a0_1, .slice A0_2 l0_2.length c0_2] 25)
  obtain ⟨had, hhad⟩ : ∃ b, (findR (mineP a1) l0_2).2 = b := ⟨_, rfl⟩
  have HHAD := Aside0.mk hhad
  clear hhad
  go_enter Tryd.func11, Tryd.ntmps11
  go_upto_block 0 with (go_at_call 13; refine (HTO.out a1 _ HA4.out.hb had HHAD.out).mono ?_; rintro e w5 ⟨t1, t2, t3, rfl, hb⟩; have HA5 := Aside0.mk (HA4.out.below hb); clear hb)
  (try simp only [Act.put, List.setIfInBounds_toArray, List.set_cons_zero, List.set_cons_succ])
  have HA6 := Aside0.mk (HA5.out.alloc (.cells #[.string t1, .string t2, .bool t3] 31))
  generalize w5.alloc (.cells #[.string t1, .string t2, .bool t3] 31) = w6 at HA6 ⊢
  clear HA5 HA4
  go_cut [1] (fun v1 wc => ∃ (m : ByteArray) (made : Int), v1 = .string m ∧ Aside0 (addTail a0_0 a0_1 l0_2 a2 m made = some (r1, r2, r3, r4, r5, r6, r7)) ∧ Aside0 (AddW w wc a0_0 a0_1 made A0_2 l0_2.length c0_2))
  case first =>
    have hr := H.out
    clear H
    unfold names_Add.f at hr
    obtain ⟨c40, c41, c42⟩ := HA6.out.c4
    obtain ⟨c80, c81, c82, c8f⟩ := HA6.out.c8
    obtain ⟨c90, c91, c92, c9f⟩ := HA6.out.c9
    by_cases c1 : a3 ≤ (l0_2.length : Int)
    · rw [if_pos c1] at hr
      simp only [Option.some.injEq, Prod.mk.injEq] at hr
      obtain ⟨rfl, rfl, rfl, rfl, rfl, rfl, rfl⟩ := hr
      go_wp2
      have HF := finW_below (B1 := w.heap.size + 1) (B2 := w.heap.size + 1 + 1) (HA6.out).hb (by omega) (by omega) (.int .i64 a0_0) (.int .u64 a0_1) (.slice A0_2 l0_2.length c0_2) (.string ⟨#[]⟩) (.string ⟨#[]⟩) (.bool false)
      refine bodyPost_ret (results_cct rfl _ _ (w.heap.size + 1) (w.heap.size + 1 + 1) 25 31 #[.int .i64 a0_0, .int .u64 a0_1, .slice A0_2 l0_2.length c0_2] #[.string ⟨#[]⟩, .string ⟨#[]⟩, .bool false] (0, 0) (0, 0) _ _ rfl (finW_b1 (HA6.out).b8 (by omega) _ _ _ _ _ _) Tryd.underlying25 rfl (by kernel_rfl) rfl (finW_b2 (HA6.out).b9 (by omega) _ _ _ _ _ _) Tryd.underlying31 rfl (by kernel_rfl)) rfl ?_
      exact ⟨_, rfl, Kd.V_mono (Kd.V_below HS.out HF) (fun k hk => Or.inl hk), HF⟩

    · rw [if_neg c1] at hr
      by_cases c2 : a1.toList = []
      · rw [if_pos c2] at hr
        have c2b : (a1.toList == ([] : List UInt8)) = true := beq_iff_eq.2 c2
        obtain ⟨⟨m1, made1⟩, hl, ht⟩ := Option.bind_eq_some_iff.1 hr
        have HL := Aside0.mk hl
        have HTL : Aside0 (addTail a0_0 a0_1 l0_2 a2 m1 made1 = some (r1, r2, r3, r4, r5, r6, r7)) := ⟨ht⟩
        clear hr hl ht c2
        go_wp2
        go_step3
        go_wp2
        go_step3
        go_wp2
        go_loopg [1] (l0_2.length + 1) (fun gg v1 wr => ∃ (mm : ByteArray) (made : Int), v1 = .string mm ∧ Aside0 (mkLoop l0_2 gg made = some (m1, made1)) ∧ Aside0 (AddW w wr a0_0 a0_1 made A0_2 l0_2.length c0_2))
        case atStart => exact ⟨a1, a0_1, rfl, HL, HA6⟩
        case round =>
          clear HL HA6 c40 c41 c42 c80 c81 c82 c8f c90 c91 c92 c9f
          obtain ⟨mm, made, rfl, HL, HA⟩ := hrel
          cases gk with
          | zero => exact absurd HL.out (by simp [mkLoop])
          | succ k2 =>
            have H2 := HL.out
            clear HL
            simp only [mkLoop] at H2
            by_cases hrg : 0 ≤ made ∧ made < 18446744073709551616
            · rw [if_pos hrg] at H2
              obtain ⟨u, rfl⟩ : ∃ u : Nat, made = (u : Int) := ⟨made.toNat, by omega⟩
              have hur : u < 18446744073709551616 := by omega
              have hdl : (Lib.decDigits u).length ≤ 20 := by
                rw [Lib.decDigits_length]
                rcases Nat.eq_zero_or_pos u with h0 | h0
                · subst h0; rw [Lib.nDigits_small (by omega)]; omega
                · have := Lib.numDigits_eq u h0 hur; split at this <;> omega
              have hcs : (⟨(Lib.decDigits u).toArray⟩ : ByteArray).size = (Lib.decDigits u).length := by show (Lib.decDigits u).toArray.size = _; simp
              have hcc : ¬ (9223372036854775807 : Nat) < 5 + (⟨(Lib.decDigits u).toArray⟩ : ByteArray).size := by rw [hcs]; omega
              obtain ⟨d40, d41, d42⟩ := HA.out.c4
              obtain ⟨d110, d111, d112, d11f⟩ := HA.out.c11
              have hne1 : w.heap.size + 1 + 1 + 1 ≠ w.heap.size := by omega
              have hne2 := hne1.symm
              clear hcs hdl hrg
              cases hq : (findR (mineP (mkName (u : Int))) l0_2).2 with
              | true =>
                rw [hq, if_pos rfl] at H2
                have HQ : Aside0 ((findR (mineP ((⟨#[97, 109, 113, 46, 99]⟩ : ByteArray) ++ ⟨(Lib.decDigits u).toArray⟩)) l0_2).2 = true) := ⟨hq⟩
                have HL2 := Aside0.mk H2
                clear hq H2
                go_wp2_with (first
                  | (go_at_call 18; refine (strconv_FormatUint_18.calls u hur _ (hT.out.below HA.out.hb).p).mono ?_; rintro e w7 ⟨rfl, hb⟩; have HA7 := Aside0.mk (HA.out.below hb); clear hb; obtain ⟨d40, d41, d42⟩ := HA7.out.c4; obtain ⟨d110, d111, d112, d11f⟩ := HA7.out.c11)
                  | (go_at_call 13; refine (HTO.out ((⟨#[97, 109, 113, 46, 99]⟩ : ByteArray) ++ ⟨(Lib.decDigits u).toArray⟩) _ (HA7.out.set (IntKind.u64.wrap ((u : Int) + 1))).hb _ HQ.out).mono ?_; rintro e w8 ⟨s1, s2, s3, rfl, hb⟩; have HA8 := Aside0.mk (((HA7.out.set (IntKind.u64.wrap ((u : Int) + 1))).below hb).alloc (.cells #[.string s1, .string s2, .bool s3] 31)); clear hb))
                go_roundg k2
                case measure => omega
                case rel => exact ⟨((⟨#[97, 109, 113, 46, 99]⟩ : ByteArray) ++ ⟨(Lib.decDigits u).toArray⟩), IntKind.u64.wrap ((u : Int) + 1), rfl, HL2, HA8⟩
              | false =>
                rw [hq, if_neg (by decide)] at H2
                have HQ : Aside0 ((findR (mineP ((⟨#[97, 109, 113, 46, 99]⟩ : ByteArray) ++ ⟨(Lib.decDigits u).toArray⟩)) l0_2).2 = false) := ⟨hq⟩
                simp only [Option.some.injEq, Prod.mk.injEq] at H2
                obtain ⟨rfl, rfl⟩ := H2
                clear hq
                go_wp2_with (first
                  | (go_at_call 18; refine (strconv_FormatUint_18.calls u hur _ (hT.out.below HA.out.hb).p).mono ?_; rintro e w7 ⟨rfl, hb⟩; have HA7 := Aside0.mk (HA.out.below hb); clear hb; obtain ⟨d40, d41, d42⟩ := HA7.out.c4; obtain ⟨d110, d111, d112, d11f⟩ := HA7.out.c11)
                  | (go_at_call 13; refine (HTO.out ((⟨#[97, 109, 113, 46, 99]⟩ : ByteArray) ++ ⟨(Lib.decDigits u).toArray⟩) _ (HA7.out.set (IntKind.u64.wrap ((u : Int) + 1))).hb _ HQ.out).mono ?_; rintro e w8 ⟨s1, s2, s3, rfl, hb⟩; have HA8 := Aside0.mk (((HA7.out.set (IntKind.u64.wrap ((u : Int) + 1))).below hb).alloc (.cells #[.string s1, .string s2, .bool s3] 31)); clear hb))
                rw [Exit.noGoto_normal]
                go_wp2
                go_meet
                case rel => exact ⟨((⟨#[97, 109, 113, 46, 99]⟩ : ByteArray) ++ ⟨(Lib.decDigits u).toArray⟩), IntKind.u64.wrap ((u : Int) + 1), rfl, HTL, HA8⟩
            · rw [if_neg hrg] at H2
              cases H2
      · rw [if_neg c2] at hr
        have c2b : (a1.toList == ([] : List UInt8)) = false := beq_eq_false_iff_ne.2 c2
        rw [HHAD.out] at hr
        cases had with
        | true =>
          rw [if_pos rfl] at hr
          simp only [Option.some.injEq, Prod.mk.injEq] at hr
          obtain ⟨rfl, rfl, rfl, rfl, rfl, rfl, rfl⟩ := hr
          go_wp2
          have HF := finW_below (B1 := w.heap.size + 1) (B2 := w.heap.size + 1 + 1) (HA6.out).hb (by omega) (by omega) (.int .i64 a0_0) (.int .u64 a0_1) (.slice A0_2 l0_2.length c0_2) (.string ⟨#[]⟩) (.string ⟨#[]⟩) (.bool false)
          refine bodyPost_ret (results_cct rfl _ _ (w.heap.size + 1) (w.heap.size + 1 + 1) 25 31 #[.int .i64 a0_0, .int .u64 a0_1, .slice A0_2 l0_2.length c0_2] #[.string ⟨#[]⟩, .string ⟨#[]⟩, .bool false] (0, 0) (0, 0) _ _ rfl (finW_b1 (HA6.out).b8 (by omega) _ _ _ _ _ _) Tryd.underlying25 rfl (by kernel_rfl) rfl (finW_b2 (HA6.out).b9 (by omega) _ _ _ _ _ _) Tryd.underlying31 rfl (by kernel_rfl)) rfl ?_
          exact ⟨_, rfl, Kd.V_mono (Kd.V_below HS.out HF) (fun k hk => Or.inl hk), HF⟩

        | false =>
          rw [if_neg (by decide)] at hr
          have HR := Aside0.mk hr
          clear hr
          go_wp2
          go_meet
          case rel => exact ⟨a1, a0_1, rfl, HR, HA6⟩
  case rest =>
    clear H HA6 HHAD HTO
    obtain ⟨m, made, rfl, HT0, HA⟩ := hcut
    have ht := HT0.out
    clear HT0
    unfold addTail at ht
    obtain ⟨⟨up, eu⟩, hup, ht⟩ := Option.bind_eq_some_iff.1 ht
    have HUP := Aside0.mk (names_Up.calls a0_0 m up eu wc ⟨hT.out.below HA.out.hb⟩ hup)
    obtain ⟨d40, d41, d42⟩ := HA.out.c4
    clear hup
    simp only at ht
    by_cases e0 : eu = 0
    · rw [if_pos e0] at ht
      by_cases u0 : up.toList = []
      · rw [if_pos u0] at ht
        cases ht
      · rw [if_neg u0] at ht
        by_cases hl : l0_2.length ≤ 3518437208880
        · rw [if_pos hl] at ht
          simp only [Option.some.injEq, Prod.mk.injEq] at ht
          obtain ⟨rfl, rfl, rfl, rfl, rfl, rfl, rfl⟩ := ht
          have u0b : (up.toList == ([] : List UInt8)) = false := beq_eq_false_iff_ne.2 u0
          subst e0
          clear u0
          go_wp2_with (go_at_call 16; refine HUP.out.mono ?_; rintro e w7 ⟨rfl, hb⟩; have HA7 := Aside0.mk (HA.out.below hb); clear hb)
          have HAX := Aside0.mk (HA7.out.alloc (.cells #[.string m, .string up, .bool a2] 31))
          have HBX : Aside0 ((w7.alloc (.cells #[.string m, .string up, .bool a2] 31)).heap[w7.heap.size]? = some (.cells #[.string m, .string up, .bool a2] 31 (0, 0))) := ⟨blk_new _ _⟩
          have hgx : w.heap.size + 1 + 1 + 1 < w7.heap.size := blk_lt HA7.out.b11
          clear HA7 HA d40 d41 d42 HUP
          generalize w7.alloc (.cells #[.string m, .string up, .bool a2] 31) = wx at HAX HBX ⊢
          generalize w7.heap.size = gx at HBX hgx ⊢
          obtain ⟨f110, f111, f112, f11f⟩ := HAX.out.c11
          have x0 : wx.cell? ⟨gx, 0, none⟩ = some (.string m) := (blk_cell HBX.out 0).trans rfl
          have x1 : wx.cell? ⟨gx, 1, none⟩ = some (.string up) := (blk_cell HBX.out 1).trans rfl
          have x2 : wx.cell? ⟨gx, 2, none⟩ = some (.bool a2) := (blk_cell HBX.out 2).trans rfl
          have hclz : (l0_2.length : Int) ≤ (c0_2 : Int) := by omega
          have hmz : (l0_2.length : Int) ≤ 9223372036854775807 := by omega
          refine start_ (n := 14) (S := (fun w' => w'.cell? ⟨w.heap.size + 1 + 1 + 1, 2, none⟩ = some (.slice A0_2 l0_2.length c0_2) ∧ w'.cell? ⟨gx, 0, none⟩ = some (.string m) ∧ w'.cell? ⟨gx, 1, none⟩ = some (.string up) ∧ w'.cell? ⟨gx, 2, none⟩ = some (.bool a2))) (ds := [13]) #[false, false, false, false, false, false, false, false, false, false, false, false, false, false] (by kernel_rfl) rfl rfl ⟨f112, x0, x1, x2⟩ (fun hHeld => ?_)
          refine take_ (i := 0) (N := some 77) (v := ?_) (a' := ?_) #[true, false, false, false, false, false, false, false, false, false, false, false, false, false] rfl rfl (by kernel_rfl) (fun _ _ _ h => h) (Or.inl ⟨by rfl, ?_⟩) hHeld ?_ ?_
          rotate_left
          · rintro w' ⟨g0, g1, g2, g3⟩
            go_simp
            try with_reducible rfl
          rotate_left
          · simp only [Act.put, List.setIfInBounds_toArray, List.set_cons_zero, List.set_cons_succ, i64_w, i32_w]
            rfl
          refine take_ (i := 1) (N := some 78) (v := ?_) (a' := ?_) #[true, true, false, false, false, false, false, false, false, false, false, false, false, false] rfl rfl (by kernel_rfl) (fun _ _ _ h => h) (Or.inl ⟨by rfl, ?_⟩) hHeld ?_ ?_
          rotate_left
          · rintro w' ⟨g0, g1, g2, g3⟩
            go_simp
            try with_reducible rfl
          rotate_left
          · simp only [Act.put, List.setIfInBounds_toArray, List.set_cons_zero, List.set_cons_succ, i64_w, i32_w]
            rfl
          refine take_ (i := 2) (N := some 79) (v := ?_) (a' := ?_) #[true, true, true, false, false, false, false, false, false, false, false, false, false, false] rfl rfl (by kernel_rfl) (fun _ _ _ h => h) (Or.inl ⟨by rfl, ?_⟩) hHeld ?_ ?_
          rotate_left
          · rintro w' ⟨g0, g1, g2, g3⟩
            go_simp
            try with_reducible rfl
          rotate_left
          · simp only [Act.put, List.setIfInBounds_toArray, List.set_cons_zero, List.set_cons_succ, i64_w, i32_w]
            rfl
          refine take_ (i := 3) (N := some 80) (v := ?_) (a' := ?_) #[true, true, true, true, false, false, false, false, false, false, false, false, false, false] rfl rfl (by kernel_rfl) (fun _ _ _ h => h) (Or.inl ⟨by rfl, ?_⟩) hHeld ?_ ?_
          rotate_left
          · rintro w' ⟨g0, g1, g2, g3⟩
            go_simp
            try with_reducible rfl
          rotate_left
          · simp only [Act.put, List.setIfInBounds_toArray, List.set_cons_zero, List.set_cons_succ, i64_w, i32_w]
            rfl
          refine take_ (i := 4) (N := some 81) (v := ?_) (a' := ?_) #[true, true, true, true, true, false, false, false, false, false, false, false, false, false] rfl rfl (by kernel_rfl) (fun _ _ _ h => h) (Or.inl ⟨by rfl, ?_⟩) hHeld ?_ ?_
          rotate_left
          · rintro w' ⟨g0, g1, g2, g3⟩
            go_simp
            try with_reducible rfl
          rotate_left
          · simp only [Act.put, List.setIfInBounds_toArray, List.set_cons_zero, List.set_cons_succ, i64_w, i32_w]
            rfl
          refine take_ (i := 5) (N := some 82) (v := ?_) (a' := ?_) #[true, true, true, true, true, true, false, false, false, false, false, false, false, false] rfl rfl (by kernel_rfl) (fun _ _ _ h => h) (Or.inl ⟨by rfl, ?_⟩) hHeld ?_ ?_
          rotate_left
          · rintro w' ⟨g0, g1, g2, g3⟩
            go_simp
            try with_reducible rfl
          rotate_left
          · simp only [Act.put, List.setIfInBounds_toArray, List.set_cons_zero, List.set_cons_succ, i64_w, i32_w]
            rfl
          refine take_ (i := 6) (N := some 83) (v := ?_) (a' := ?_) #[true, true, true, true, true, true, true, false, false, false, false, false, false, false] rfl rfl (by kernel_rfl) (fun _ _ _ h => h) (Or.inl ⟨by rfl, ?_⟩) hHeld ?_ ?_
          rotate_left
          · rintro w' ⟨g0, g1, g2, g3⟩
            go_simp
            try with_reducible rfl
          rotate_left
          · simp only [Act.put, List.setIfInBounds_toArray, List.set_cons_zero, List.set_cons_succ, i64_w, i32_w]
            rfl
          refine take_ (i := 7) (N := some 84) (v := ?_) (a' := ?_) #[true, true, true, true, true, true, true, true, false, false, false, false, false, false] rfl rfl (by kernel_rfl) (fun _ _ _ h => h) (Or.inl ⟨by rfl, ?_⟩) hHeld ?_ ?_
          rotate_left
          · rintro w' ⟨g0, g1, g2, g3⟩
            go_simp
            try with_reducible rfl
          rotate_left
          · simp only [Act.put, List.setIfInBounds_toArray, List.set_cons_zero, List.set_cons_succ, i64_w, i32_w]
            rfl
          refine take_ (i := 8) (N := some 85) (v := ?_) (a' := ?_) #[true, true, true, true, true, true, true, true, true, false, false, false, false, false] rfl rfl (by kernel_rfl) (fun _ _ _ h => h) (Or.inl ⟨by rfl, ?_⟩) hHeld ?_ ?_
          rotate_left
          · rintro w' ⟨g0, g1, g2, g3⟩
            go_simp
            try with_reducible rfl
          rotate_left
          · simp only [Act.put, List.setIfInBounds_toArray, List.set_cons_zero, List.set_cons_succ, i64_w, i32_w]
            rfl
          refine take_ (i := 9) (N := some 86) (v := ?_) (a' := ?_) #[true, true, true, true, true, true, true, true, true, true, false, false, false, false] rfl rfl (by kernel_rfl) (fun _ _ _ h => h) (Or.inl ⟨by rfl, ?_⟩) hHeld ?_ ?_
          rotate_left
          · rintro w' ⟨g0, g1, g2, g3⟩
            go_simp
            try with_reducible rfl
          rotate_left
          · simp only [Act.put, List.setIfInBounds_toArray, List.set_cons_zero, List.set_cons_succ, i64_w, i32_w]
            rfl
          have HAd : Aside0 (AddW w wx.drew a0_0 a0_1 made A0_2 l0_2.length c0_2) := ⟨HAX.out.below (below_drew1 (Below.refl _ _))⟩
          have HBd : Aside0 (wx.drew.heap[gx]? = some (.cells #[.string m, .string up, .bool a2] 31 (0, 0))) := ⟨HBX.out⟩
          clear HAX HBX f110 f111 f112 f11f x0 x1 x2
          generalize wx.drew = wd at HAd HBd hHeld ⊢
          refine one_ (i := 10) (N := some 87) #[true, true, true, true, true, true, true, true, true, true, true, false, false, false] rfl rfl (by kernel_rfl) (by decide) (fun K hK => ?_)
          refine value_ (w1 := ?_) (v := ?_) (by rfl) rfl ?_ ?_
          rotate_left 2
          · go_simp
            constructor
            · rfl
            · rfl
          refine hK.out _ _ (by exact ⟨(HAd.out.alloc _).c11.2.2.1, (blk_cell (blk_alloc HBd.out _) 0).trans rfl, (blk_cell (blk_alloc HBd.out _) 1).trans rfl, (blk_cell (blk_alloc HBd.out _) 2).trans rfl⟩) (fun hHeld => ?_)
          clear hK K
          refine norm_ (a' := ?_) ?_ ?_
          rotate_left
          · show Act.put _ (some 87) _ = _
            simp only [Act.put, List.setIfInBounds_toArray, List.set_cons_zero, List.set_cons_succ, i64_w, i32_w]
            rfl
          refine one_ (i := 11) (N := some 88) #[true, true, true, true, true, true, true, true, true, true, true, true, false, false] rfl rfl (by kernel_rfl) (by decide) (fun K hK => ?_)
          refine step_append_full k31 Flat.k31 rfl (.tmp 85) (.tmp 87) 23 31 (.agg #[.string ⟨#[]⟩, .string ⟨#[]⟩, .bool false]) 40 rfl Tryd.underlying23 info31' rfl (by decide) (by decide) A0_2 l0_2 ⟨m, up, a2⟩ [.string m, .string up, .bool a2] rfl rfl (k31_mk _ ⟨m, up, a2⟩) (Kd.C_below HC.out HAd.out.hb) (by omega) ?_
          intro v1 w9 hR hB9
          obtain ⟨A2, cap2, rfl⟩ := Kd.R_slice hR
          have HA9 := Aside0.mk (HAd.out.below hB9)
          have HB9 := Aside0.mk (blk_below HBd.out hB9)
          have HR9 : Aside0 (Kd.R k31 31 w9 w.heap.size (fun k => w.heap.size + 1 + 1 + 1 < k ∧ k ≠ gx) (.slice A2 (l0_2 ++ [(⟨m, up, a2⟩ : S31)]).length cap2) (l0_2 ++ [(⟨m, up, a2⟩ : S31)])) := ⟨Kd.R_lower (Kd.R_mono (Kd.R_bound hR) (fun k hk => ⟨Nat.lt_of_lt_of_le (blk_lt HAd.out.b11) hk.2.1, Nat.ne_of_gt (Nat.lt_of_lt_of_le (blk_lt HBd.out) hk.2.1)⟩)) HAd.out.hb.size⟩
          have hln : (l0_2 ++ [(⟨m, up, a2⟩ : S31)]).length = l0_2.length + 1 := by simp
          rw [hln] at HR9
          rw [hln]
          clear hR hB9 HBd HAd hln
          obtain ⟨k110, k111, k112, k11f⟩ := HA9.out.c11
          obtain ⟨k80, k81, k82, k8f⟩ := HA9.out.c8
          obtain ⟨k90, k91, k92, k9f⟩ := HA9.out.c9
          have y0 : w9.cell? ⟨gx, 0, none⟩ = some (.string m) := (blk_cell HB9.out 0).trans rfl
          have y1 : w9.cell? ⟨gx, 1, none⟩ = some (.string up) := (blk_cell HB9.out 1).trans rfl
          have y2 : w9.cell? ⟨gx, 2, none⟩ = some (.bool a2) := (blk_cell HB9.out 2).trans rfl
          refine hK.out _ _ ⟨k112, y0, y1, y2⟩ (fun hHeld => ?_)
          clear hK K
          refine norm_ (a' := ?_) ?_ ?_
          rotate_left
          · show Act.put _ (some 88) _ = _
            simp only [Act.put, List.setIfInBounds_toArray, List.set_cons_zero, List.set_cons_succ, i64_w, i32_w]
            rfl
          refine take_ (i := 12) (N := some 89) (v := ?_) (a' := ?_) #[true, true, true, true, true, true, true, true, true, true, true, true, true, false] rfl rfl (by kernel_rfl) (fun _ _ _ h => h) (Or.inl ⟨by rfl, ?_⟩) hHeld ?_ ?_
          rotate_left
          · rintro w' ⟨g0, g1, g2, g3⟩
            go_simp
            try with_reducible rfl
          rotate_left
          · simp only [Act.put, List.setIfInBounds_toArray, List.set_cons_zero, List.set_cons_succ, i64_w, i32_w]
            rfl
          refine last_ (i := 13) (N := none) #[true, true, true, true, true, true, true, true, true, true, true, true, true, true] rfl rfl (by kernel_rfl) (by decide) (fun K hK => ?_)
          refine skip_ (w1 := ?_) (by rfl) rfl ?_ ?_
          rotate_left
          · go_simp
            rfl
          refine hK.out _ _ ?_
          clear hK K
          refine done_ (by kernel_rfl) ?_
          generalize hwf : w9.setCell ⟨w.heap.size + 1 + 1 + 1, 2, none⟩ (.slice A2 (l0_2.length + 1) cap2) = wf
          have q11 : Aside0 (wf.heap[w.heap.size + 1 + 1 + 1]? = some (.cells #[.int .i64 a0_0, .int .u64 made, .slice A2 (l0_2.length + 1) cap2] 25 (0, 0))) := ⟨by rw [← hwf]; exact blk_put HA9.out.b11 2 _ rfl⟩
          have q8 : Aside0 (wf.heap[w.heap.size + 1]? = some (.cells #[.int .i64 0, .int .u64 0, .slice none 0 0] 25 (0, 0))) := ⟨by rw [← hwf]; exact blk_far (p := ⟨w.heap.size + 1 + 1 + 1, 2, none⟩) HA9.out.b8 (by show w.heap.size + 1 ≠ w.heap.size + 1 + 1 + 1; omega) _⟩
          have q9 : Aside0 (wf.heap[w.heap.size + 1 + 1]? = some (.cells #[.string ⟨#[]⟩, .string ⟨#[]⟩, .bool false] 31 (0, 0))) := ⟨by rw [← hwf]; exact blk_far (p := ⟨w.heap.size + 1 + 1 + 1, 2, none⟩) HA9.out.b9 (by show w.heap.size + 1 + 1 ≠ w.heap.size + 1 + 1 + 1; omega) _⟩
          have qx : Aside0 (wf.heap[gx]? = some (.cells #[.string m, .string up, .bool a2] 31 (0, 0))) := ⟨by rw [← hwf]; exact blk_far (p := ⟨w.heap.size + 1 + 1 + 1, 2, none⟩) HB9.out (by show gx ≠ w.heap.size + 1 + 1 + 1; omega) _⟩
          have HBf : Aside0 (Below w.heap.size w wf) := ⟨by rw [← hwf]; exact below_set HA9.out.hb (by show w.heap.size ≤ w.heap.size + 1 + 1 + 1; omega)⟩
          have HRf : Aside0 (Kd.R k31 31 wf w.heap.size (fun k => w.heap.size + 1 + 1 + 1 < k ∧ k ≠ gx) (.slice A2 (l0_2.length + 1) cap2) (l0_2 ++ [(⟨m, up, a2⟩ : S31)])) := ⟨by rw [← hwf]; exact Kd.R_far (p := ⟨w.heap.size + 1 + 1 + 1, 2, none⟩) HR9.out (fun k hk => Nat.ne_of_gt hk.1) _⟩
          clear hwf HA9 HB9 HR9 k110 k111 k112 k11f k80 k81 k82 k8f k90 k91 k92 k9f y0 y1 y2 hHeld
          have z11_0 : wf.cell? ⟨w.heap.size + 1 + 1 + 1, 0, none⟩ = some (.int .i64 a0_0) := (blk_cell q11.out 0).trans rfl
          have z11_1 : wf.cell? ⟨w.heap.size + 1 + 1 + 1, 1, none⟩ = some (.int .u64 made) := (blk_cell q11.out 1).trans rfl
          have z11_2 : wf.cell? ⟨w.heap.size + 1 + 1 + 1, 2, none⟩ = some (.slice A2 (l0_2.length + 1) cap2) := (blk_cell q11.out 2).trans rfl
          have z8_0 : wf.cell? ⟨w.heap.size + 1, 0, none⟩ = some (.int .i64 0) := (blk_cell q8.out 0).trans rfl
          have z8_1 : wf.cell? ⟨w.heap.size + 1, 1, none⟩ = some (.int .u64 0) := (blk_cell q8.out 1).trans rfl
          have z8_2 : wf.cell? ⟨w.heap.size + 1, 2, none⟩ = some (.slice none 0 0) := (blk_cell q8.out 2).trans rfl
          have z9_0 : wf.cell? ⟨w.heap.size + 1 + 1, 0, none⟩ = some (.string ⟨#[]⟩) := (blk_cell q9.out 0).trans rfl
          have z9_1 : wf.cell? ⟨w.heap.size + 1 + 1, 1, none⟩ = some (.string ⟨#[]⟩) := (blk_cell q9.out 1).trans rfl
          have z9_2 : wf.cell? ⟨w.heap.size + 1 + 1, 2, none⟩ = some (.bool false) := (blk_cell q9.out 2).trans rfl
          have zx_0 : wf.cell? ⟨gx, 0, none⟩ = some (.string m) := (blk_cell qx.out 0).trans rfl
          have zx_1 : wf.cell? ⟨gx, 1, none⟩ = some (.string up) := (blk_cell qx.out 1).trans rfl
          have zx_2 : wf.cell? ⟨gx, 2, none⟩ = some (.bool a2) := (blk_cell qx.out 2).trans rfl
          have z8_f := fun j => blk_frozen q8.out j
          have z9_f := fun j => blk_frozen q9.out j
          have ne0 : w.heap.size + 1 + 1 + 1 ≠ w.heap.size + 1 := by omega
          have nf0 := ne0.symm
          have ne1 : w.heap.size + 1 + 1 + 1 ≠ w.heap.size + 1 + 1 := by omega
          have nf1 := ne1.symm
          have ne2 : gx ≠ w.heap.size + 1 := by omega
          have nf2 := ne2.symm
          have ne3 : gx ≠ w.heap.size + 1 + 1 := by omega
          have nf3 := ne3.symm
          have ne4 : w.heap.size + 1 + 1 ≠ w.heap.size + 1 := by omega
          have nf4 := ne4.symm
          go_wp2
          go_region_held3 (fun w' => w'.cell? ⟨w.heap.size + 1 + 1 + 1, 0, none⟩ = some (.int .i64 a0_0) ∧ w'.cell? ⟨w.heap.size + 1 + 1 + 1, 1, none⟩ = some (.int .u64 made) ∧ w'.cell? ⟨w.heap.size + 1 + 1 + 1, 2, none⟩ = some (.slice A2 (l0_2.length + 1) cap2) ∧ w'.cell? ⟨gx, 0, none⟩ = some (.string m) ∧ w'.cell? ⟨gx, 1, none⟩ = some (.string up) ∧ w'.cell? ⟨gx, 2, none⟩ = some (.bool a2))
            (go_keep)
            (fail)
          all_goals go_wp2
          all_goals (
            have HF8 : Aside0 ((finW wf (w.heap.size + 1) (w.heap.size + 1 + 1) (.int .i64 a0_0) (.int .u64 made) (.slice A2 (l0_2.length + 1) cap2) (.string m) (.string up) (.bool a2)).drew.heap[w.heap.size + 1]? = some (.cells #[.int .i64 a0_0, .int .u64 made, .slice A2 (l0_2.length + 1) cap2] 25 (0, 0))) := ⟨finW_b1 q8.out (by omega) (.int .i64 a0_0) (.int .u64 made) (.slice A2 (l0_2.length + 1) cap2) (.string m) (.string up) (.bool a2)⟩
            have HF9 : Aside0 ((finW wf (w.heap.size + 1) (w.heap.size + 1 + 1) (.int .i64 a0_0) (.int .u64 made) (.slice A2 (l0_2.length + 1) cap2) (.string m) (.string up) (.bool a2)).drew.heap[w.heap.size + 1 + 1]? = some (.cells #[.string m, .string up, .bool a2] 31 (0, 0))) := ⟨finW_b2 q9.out (by omega) (.int .i64 a0_0) (.int .u64 made) (.slice A2 (l0_2.length + 1) cap2) (.string m) (.string up) (.bool a2)⟩
            have HFB : Aside0 (Below w.heap.size w (finW wf (w.heap.size + 1) (w.heap.size + 1 + 1) (.int .i64 a0_0) (.int .u64 made) (.slice A2 (l0_2.length + 1) cap2) (.string m) (.string up) (.bool a2)).drew) := ⟨below_drew1 (finW_below (B1 := w.heap.size + 1) (B2 := w.heap.size + 1 + 1) HBf.out (by omega) (by omega) (.int .i64 a0_0) (.int .u64 made) (.slice A2 (l0_2.length + 1) cap2) (.string m) (.string up) (.bool a2))⟩
            have HFR0 : Kd.R k31 31 (finW wf (w.heap.size + 1) (w.heap.size + 1 + 1) (.int .i64 a0_0) (.int .u64 made) (.slice A2 (l0_2.length + 1) cap2) (.string m) (.string up) (.bool a2)) w.heap.size (fun k => w.heap.size + 1 + 1 + 1 < k ∧ k ≠ gx) (.slice A2 (l0_2.length + 1) cap2) (l0_2 ++ [(⟨m, up, a2⟩ : S31)]) := by unfold finW; exact (Kd.R_far (p := ⟨w.heap.size + 1 + 1, 2, none⟩) (Kd.R_far (p := ⟨w.heap.size + 1 + 1, 1, none⟩) (Kd.R_far (p := ⟨w.heap.size + 1 + 1, 0, none⟩) (Kd.R_far (p := ⟨w.heap.size + 1, 2, none⟩) (Kd.R_far (p := ⟨w.heap.size + 1, 1, none⟩) (Kd.R_far (p := ⟨w.heap.size + 1, 0, none⟩) HRf.out (fun k hk => by have := hk.1; show k ≠ w.heap.size + 1; omega) _) (fun k hk => by have := hk.1; show k ≠ w.heap.size + 1; omega) _) (fun k hk => by have := hk.1; show k ≠ w.heap.size + 1; omega) _) (fun k hk => by have := hk.1; show k ≠ w.heap.size + 1 + 1; omega) _) (fun k hk => by have := hk.1; show k ≠ w.heap.size + 1 + 1; omega) _) (fun k hk => by have := hk.1; show k ≠ w.heap.size + 1 + 1; omega) _)
            have HFR : Aside0 (Kd.V k31 31 (finW wf (w.heap.size + 1) (w.heap.size + 1 + 1) (.int .i64 a0_0) (.int .u64 made) (.slice A2 (l0_2.length + 1) cap2) (.string m) (.string up) (.bool a2)).drew w.heap.size (fun k_ => (P0_2_ k_ ∨ w.heap.size ≤ k_)) (.slice A2 (l0_2.length + 1) cap2) (l0_2 ++ [(⟨m, up, a2⟩ : S31)])) := ⟨Kd.V_mono (Kd.R_V (Kd.R_bound (Kd.R_drew HFR0))) (fun k hk => Or.inr hk.2.1)⟩
            show bodyPost _ _ _ _ _ (finW wf (w.heap.size + 1) (w.heap.size + 1 + 1) (.int .i64 a0_0) (.int .u64 made) (.slice A2 (l0_2.length + 1) cap2) (.string m) (.string up) (.bool a2)).drew
            clear HFR0
            generalize (finW wf (w.heap.size + 1) (w.heap.size + 1 + 1) (.int .i64 a0_0) (.int .u64 made) (.slice A2 (l0_2.length + 1) cap2) (.string m) (.string up) (.bool a2)).drew = wz at HF8 HF9 HFB HFR ⊢
            refine bodyPost_ret (results_cct rfl _ _ (w.heap.size + 1) (w.heap.size + 1 + 1) 25 31 #[.int .i64 a0_0, .int .u64 made, .slice A2 (l0_2.length + 1) cap2] #[.string m, .string up, .bool a2] (0, 0) (0, 0) _ _ rfl HF8.out Tryd.underlying25 rfl (by kernel_rfl) rfl HF9.out Tryd.underlying31 rfl (by kernel_rfl)) rfl ?_
            exact ⟨_, rfl, HFR.out, HFB.out⟩)
        · rw [if_neg hl] at ht
          cases ht
    · rw [if_neg e0] at ht
      simp only [Option.some.injEq, Prod.mk.injEq] at ht
      obtain ⟨rfl, rfl, rfl, rfl, rfl, rfl, rfl⟩ := ht
      have e0b : (eu != 0) = true := bne_iff_ne.2 e0
      have e0c : (eu == 0) = false := beq_eq_false_iff_ne.2 e0
      clear e0
      go_wp2_with (go_at_call 16; refine HUP.out.mono ?_; rintro e w7 ⟨rfl, hb⟩; have HA7 := Aside0.mk (HA.out.below hb); clear hb; obtain ⟨f40, f41, f42⟩ := HA7.out.c4; obtain ⟨f80, f81, f82, f8f⟩ := HA7.out.c8; obtain ⟨f90, f91, f92, f9f⟩ := HA7.out.c9)
      have HF := finW_below (B1 := w.heap.size + 1) (B2 := w.heap.size + 1 + 1) (HA7.out).hb (by omega) (by omega) (.int .i64 a0_0) (.int .u64 a0_1) (.slice A0_2 l0_2.length c0_2) (.string ⟨#[]⟩) (.string ⟨#[]⟩) (.bool false)
      refine bodyPost_ret (results_cct rfl _ _ (w.heap.size + 1) (w.heap.size + 1 + 1) 25 31 #[.int .i64 a0_0, .int .u64 a0_1, .slice A0_2 l0_2.length c0_2] #[.string ⟨#[]⟩, .string ⟨#[]⟩, .bool false] (0, 0) (0, 0) _ _ rfl (finW_b1 (HA7.out).b8 (by omega) _ _ _ _ _ _) Tryd.underlying25 rfl (by kernel_rfl) rfl (finW_b2 (HA7.out).b9 (by omega) _ _ _ _ _ _) Tryd.underlying31 rfl (by kernel_rfl)) rfl ?_
      exact ⟨_, rfl, Kd.V_mono (Kd.V_below HS.out HF) (fun k hk => Or.inl hk), HF⟩

end Go.Proofs.YtobdcmgdodahgaaDoor.Q
