/- slices.Insert at []api.Slot, one value: what it computes, and that its call does so. slices.Insert at []api.Slot, one value: a new row; all of it. slices.Insert at []api.Slot, one value: all of it. What pool.Lease computes. pool.Lease, where it leases nothing at once: what it computes, and that its call does so. pool.Lease, where it looks for a channel: what it computes, and that its call does so. pool.Lease: that its call does what Lease.f says. -/
import Derived.Test.YtgiofigjnchfeaaH14
import Derived.Shelf.RegionOpenPlain
import Derived.WalkKit
import Derived.Lib.JoinLaws
import Derived.Lib.AppendZerosOnto
import Derived.Lib.Overlaps
import Derived.Laws.Externs
import Derived.Laws.IdiomCopy
import Derived.Laws.NewBlocks
namespace Go.Proofs.Ytgiofigjnchfeaa.Q
open Go.Lib Go.RowKit Go.Proofs.YtgiofigjnchfeaaW.PrintWords Go.Proofs.YtgiofigjnchfeaaW.PrintLast Go.Proofs.YtgiofigjnchfeaaW.PrintMore
set_option linter.unusedVariables false
set_option linter.unusedSimpArgs false

section
variable {P : Program}
theorem run_copy_k (w : World) (dT sT ty elem : TypeId) (b o dLen dCap : Nat) (a : Addr) (sLen sCap k n : Nat) (cs : List Value)
  (hu : P.underlying dT = some (.slice elem)) (hs : (P.info? elem).map (·.size) = some k) (hm : n = Nat.min sLen dLen) (hn : cs.length = n * k)
  (hsrc : ∀ j v, cs[j]? = some v → w.cell? (a.add j) = some v) (hc : ∀ j, j < cs.length → (w.cell? ⟨b, o + j, none⟩).isSome = true) (hf : ∀ j, j < cs.length → w.frozen? ⟨b, o + j, none⟩ = false) (h1 : ∀ v ∈ cs, v.oneCell' = true) :
  (Builtin.copy_ #[dT, sT] ty #[.slice (some ⟨b, o, none⟩) dLen dCap, .slice (some a) sLen sCap]).run P w = .ok (goInt n) (w.setCells b o cs) := by
 have hl := run_loadCells_list (P := P) w a cs hsrc
 have hst := run_storeCells_cells (P := P) b o cs 0 w (by simpa using hc) (by simpa using hf) h1
 cases hq : P.info? elem with
 | none => simp [hq] at hs
 | some i =>
  have hi : i.size = k := by simpa [hq] using hs
  rw [hn] at hl
  simp [Builtin.copy_, run_underlying hu, Builtin.lenOf, Builtin.firstCells, sizeOf, typeInfo, hq, hi, ← hm, hl, hst]

theorem wp_copy_runI' (w : World) {o : Oper} {a : Act} {K : Act → World → Prop} {Q : Exit → Act → World → Prop} (d s : Operand) (t t' : TypeId)
  (ho : o.op = .call { callee := .builtin .copy, args := #[d, s], argTypes := #[t, t'] }) (v u : Value) (hd : a.eval d = v) (hs : a.eval s = u) {v' : Value} {w' : World}
  (hr : (Builtin.copy_ #[t, t'] o.type #[v, u]).run P w = .ok v' w') (h : K (a.put o.dst v') w') : o.wp P a w K Q := by
 unfold Oper.wp execOp
 simp only [ho, resolve, invoke, builtin, Sem.run_bind, Sem.run_pure, Result.andThen_ok, List.map_toArray, List.map_cons, List.map_nil, hd, hs, hr]
 exact h
theorem wpList_copy_runI' (w : World) {ops : Array Oper} {rest : List Oper} {o : Oper} {a : Act} {Q : Exit → Act → World → Prop} (hgd : o.guard = none) (d s : Operand) (t t' : TypeId)
  (ho : o.op = .call { callee := .builtin .copy, args := #[d, s], argTypes := #[t, t'] }) (v u : Value) (hd : a.eval d = v) (hs : a.eval s = u) {v' : Value} {w' : World}
  (hr : (Builtin.copy_ #[t, t'] o.type #[v, u]).run P w = .ok v' w') (h : wpList P ops Q rest (a.put o.dst v') w') : wpList P ops Q (o :: rest) a w :=
 wpList_plain hgd fun _ hK => wp_copy_runI' w d s t t' ho v u hd hs hr (hK _ _ h)
theorem step_copy_runI' {ops : Array Oper} {o : Oper} {a : Act} {w : World} {K : Act → World → Prop} {Q : Exit → Act → World → Prop} {E : Prop}
  (hg : o.guard = none) (d x : Operand) (dT sT : TypeId) (hop : o.op = Op.call { callee := Callee.builtin Builtin.copy, args := #[d, x], argTypes := #[dT, sT] })
  (v u : Value) (hd : a.eval d = v) (hx : a.eval x = u) {v' : Value} {w' : World} (hr : (Builtin.copy_ #[dT, sT] o.type #[v, u]).run P w = .ok v' w') (hK : K (a.put o.dst v') w') :
  if Region.wanted o (yielded ops a.tmps) = true then Oper.wp P o a w K Q else E := by
 have hw : Region.wanted o (yielded ops a.tmps) = true := by simp [Region.wanted, hg]
 rw [if_pos hw]
 unfold Oper.wp
 simp [execOp, hop, resolve, invoke, builtin, hd, hx, hr, Result.andThen]
 exact hK
end

theorem isSome_setCells' (b : Nat) (vs : List Value) (o : Nat) (w : World) (h : ∀ j, j < vs.length → (w.cell? ⟨b, o + j, none⟩).isSome = true) (k : Nat) (hk : (w.cell? ⟨b, k, none⟩).isSome = true) : ((w.setCells b o vs).cell? ⟨b, k, none⟩).isSome = true := by
 by_cases hin : o ≤ k ∧ k < o + vs.length
 ·
  have := World.cell?_setCells_in b vs o w h (k - o) (by omega)
  rw [show o + (k - o) = k by omega] at this
  rw [this]; rfl
 ·
  rw [World.cell?_setCells_out b vs o w ⟨b, k, none⟩ (fun _ _ => by show k < o ∨ o + vs.length ≤ k; omega)]
  exact hk

theorem size29 : (Try.prog.info? 29).map (·.size) = some 4 := by kernel_rfl

set_option maxHeartbeats 4000000 in
set_option maxRecDepth 100000 in
/-- There is room, and it isn't at the end: in place. -/
theorem Insert_shift (b n c i vb : Nat) (cs vs : List Value) (w : World) (hi : i < n) (hroom : n + 1 ≤ c) (hc63 : c ≤ 9223372036854775807) (hvb : vb ≠ b)
  (hcl : cs.length = n * 4) (hvl : vs.length = 4)
  (hcs : ∀ j v, cs[j]? = some v → w.cell? ⟨b, j, none⟩ = some v) (hsp : ∀ j, j < (n + 1) * 4 → (w.cell? ⟨b, j, none⟩).isSome = true) (hfz : ∀ j, w.frozen? ⟨b, j, none⟩ = false)
  (hvs : ∀ j v, vs[j]? = some v → w.cell? ⟨vb, j, none⟩ = some v) (h1c : ∀ v ∈ cs, v.oneCell' = true) (h1v : ∀ v ∈ vs, v.oneCell' = true)
  (tA tB : TypeId) (kA kB : Nat) (hsa : w.shape? vb = some (tA, kA)) (hsb : w.shape? b = some (tB, kB)) (hkB : kB ≠ 0) (hfa : w.frozen? ⟨vb, 0, none⟩ = false) (hfe : w.frozen? ⟨vb, kA, none⟩ = false) :
  Calls Try.prog 38 #[.slice (some ⟨b, 0, none⟩) n c, .int .i64 i, .slice (some ⟨vb, 0, none⟩) 1 1] w fun e w' =>
   e = .returned (.slice (some ⟨b, 0, none⟩) (n + 1) c) ∧ w' = (w.drew.setCells b ((i + 1) * 4) (cs.drop (i * 4))).setCells b (i * 4) vs := by
 have hu23 := Try.underlying23
 have mixed : Try.prog.follows Departure.mixedOrders = true := by kernel_rfl
 have hz2 : ¬ ((i : Int) = (n : Int)) := by omega
 have hov : ∀ o lb cb, (callFunc 54 #[.slice (some ⟨vb, 0, none⟩) 1 1, .slice (some ⟨b, o, none⟩) lb cb]).run Try.prog w = .ok (.value (.bool false)) w := fun o lb cb => by
  rw [run_callFunc_extern Try.func54 (by kernel_rfl) (by kernel_rfl) (by kernel_rfl) (e := Extern.SlicesOverlaps.overlaps #[23, 23] #[4]) (by kernel_rfl),
   Lib.run_overlaps_apart w 23 4 29 Try.underlying23 4 Try.sizeOf29 ⟨vb, 0, none⟩ ⟨b, o, none⟩ 1 1 lb cb hvb tA tB kA kB hsa hsb hkB hfa hfe]
  rfl
 have hdl : (cs.drop (i * 4)).length = (n - i) * 4 := by rw [List.length_drop, hcl]; omega
 have hw1 : IntKind.i64.wrap ((i : Int) + 1) = (i : Int) + 1 := by rw [IntKind.wrap_i64]; omega
 have hb1 : (0 : Int) ≤ (i : Int) + 1 := by omega
 have hin : i ≤ n := by omega
 have htn : ((i : Int) + 1).toNat = i + 1 := by omega
 have hb2 : ¬ (c = i + 1) := by omega
 have hb3 : (i : Int) ≤ (n : Int) + 1 := by omega
 have hb4 : ¬ (c = i) := by omega
 have hcp1 : ∀ ty dc sc, (Builtin.copy_ #[23, 23] ty #[.slice (some ⟨b, (i + 1) * 4, none⟩) (n - i) dc, .slice (some ⟨b, i * 4, none⟩) (n + 1 - i) sc]).run Try.prog w.drew = .ok (goInt ((n - i : Nat) : Int)) (w.drew.setCells b ((i + 1) * 4) (cs.drop (i * 4))) := fun ty dc sc =>
  run_copy_k w.drew _ _ ty 29 b ((i + 1) * 4) (n - i) dc ⟨b, i * 4, none⟩ (n + 1 - i) sc 4 (n - i) (cs.drop (i * 4)) Try.underlying23 size29 (by simp only [Nat.min_def]; split <;> omega) hdl
   (fun j v hj => by rw [Addr.add_lit]; exact hcs (i * 4 + j) v (by rwa [List.getElem?_drop] at hj))
   (fun j hj => hsp _ (by omega)) (fun j hj => hfz _) (fun v hv => h1c v (List.mem_of_mem_drop hv))
 obtain ⟨W1, hW1⟩ : ∃ W1, W1 = w.drew.setCells b ((i + 1) * 4) (cs.drop (i * 4)) := ⟨_, rfl⟩
 have hsp1 : ∀ k, k < (n + 1) * 4 → (W1.cell? ⟨b, k, none⟩).isSome = true := fun k hk => by
  rw [hW1]
  exact isSome_setCells' b (cs.drop (i * 4)) ((i + 1) * 4) w.drew (fun j hj => hsp _ (by rw [hdl] at hj; omega)) _ (hsp k hk)
 have hcp2 : ∀ (W : World), (∀ x, W.cell? x = W1.cell? x) → (∀ x, W.frozen? x = W1.frozen? x) → ∀ ty dc, (Builtin.copy_ #[23, 23] ty #[.slice (some ⟨b, i * 4, none⟩) (n + 1 - i) dc, .slice (some ⟨vb, 0, none⟩) 1 1]).run Try.prog W = .ok (goInt 1) (W.setCells b (i * 4) vs) := fun W hWc hWf ty dc =>
  run_copy_k W _ _ ty 29 b (i * 4) (n + 1 - i) dc ⟨vb, 0, none⟩ 1 1 4 1 vs Try.underlying23 size29 (by simp only [Nat.min_def]; split <;> omega) (by rw [hvl])
   (fun j v hj => by
    rw [Addr.add_lit, hWc, hW1, World.cell?_setCells_out b _ _ _ _ (fun h _ => absurd h hvb), Nat.zero_add]
    exact hvs j v hj)
   (fun j hj => by rw [hWc]; exact hsp1 _ (by omega)) (fun j hj => by rw [hWf, hW1, World.frozen?_setCells]; exact hfz _) h1v
 rw [← hW1] at hcp1
 go_enter Try.func38, Try.ntmps38
 go_wp2_with (simp only [hov])
 go_region_law_o (refine step_copy_runI' rfl _ _ 23 23 rfl _ _ (by simp [Act.eval, Act.put]) (by simp [Act.eval, Act.put]) (hcp1 _ _ _) ?_)
 go_wp2_with (at_builtin; refine wpList_copy_runI' _ rfl _ _ 23 23 rfl _ _ rfl rfl (hcp2 _ (fun _ => rfl) (fun _ => rfl) _ _) ?_)
 go_ret
 first | exact ⟨rfl, rfl⟩ | exact ⟨rfl, by rw [hW1]⟩
end Go.Proofs.Ytgiofigjnchfeaa.Q

namespace Go.Proofs.Ytgiofigjnchfeaa.Q
open Go.Lib Go.RowKit Go.Proofs.YtgiofigjnchfeaaW.PrintWords Go.Proofs.YtgiofigjnchfeaaW.PrintLast Go.Proofs.YtgiofigjnchfeaaW.PrintMore
set_option linter.unusedVariables false
set_option linter.unusedSimpArgs false

abbrev zS : Value := .agg #[.int .i64 0, .int .i64 0, .int .i64 0, .int .i64 0]

set_option maxHeartbeats 4000000 in
set_option maxRecDepth 100000 in
/-- There is no room, and it isn't at the end: a new row. -/
theorem Insert_grow (b n c i vb : Nat) (cs vs : List Value) (w : World) (hi : i < n) (hnc : n ≤ c) (hroom : c < n + 1) (hbig : (n + 1) * 32 ≤ 140737488355328)
  (hcl : cs.length = n * 4) (hvl : vs.length = 4)
  (hcs : ∀ j v, cs[j]? = some v → w.cell? ⟨b, j, none⟩ = some v)
  (hvs : ∀ j v, vs[j]? = some v → w.cell? ⟨vb, j, none⟩ = some v) (h1c : ∀ v ∈ cs, v.oneCell' = true) (h1v : ∀ v ∈ vs, v.oneCell' = true) :
  Calls Try.prog 38 #[.slice (some ⟨b, 0, none⟩) n c, .int .i64 i, .slice (some ⟨vb, 0, none⟩) 1 1] w fun e w' =>
   e = .returned (.slice (some ⟨w.heap.size, 0, none⟩) (n + 1) (grownCap w (n + 1) c 29)) ∧
   w' = (((w.alloc (.cells ((cs.take (i * 4)).toArray ++ Builtin.zeroCells zS.cells (n + 1 - i) ++ Builtin.zeroCells zS.cells (grownCap w (n + 1) c 29 - (n + 1))) 29)).drew.setCells w.heap.size (i * 4) vs).drew).setCells w.heap.size ((i + 1) * 4) (cs.drop (i * 4)) := by
 have hu23 := Try.underlying23
 have mixed : Try.prog.follows Departure.mixedOrders = true := by kernel_rfl
 obtain ⟨i0, hi0, hzz⟩ := Option.map_eq_some_iff.1 info29'
 simp only [Prod.mk.injEq] at hzz
 obtain ⟨hz0, hzs, hzb⟩ := hzz
 have hz2 : ¬ ((i : Int) = (n : Int)) := by omega
 have hz3 : (c : Int) < (n : Int) + 1 := by omega
 have hbw : b < w.heap.size := block_lt_of_cell (hcs 0 _ (List.getElem?_eq_getElem (by omega)))
 have hvw : vb < w.heap.size := block_lt_of_cell (hvs 0 _ (List.getElem?_eq_getElem (by omega)))
 have hkk : (n : Int) + 1 - (i : Int) = ((n + 1 - i : Nat) : Int) := by omega
 have hik : i + (n + 1 - i) = n + 1 := by omega
 have hold : (Builtin.firstCells i0.size i (.slice (some ⟨b, 0, none⟩) i c)).run Try.prog w.drew = .ok (cs.take (i * 4)).toArray w.drew := by
  rw [hzs]
  exact run_firstCells_some w.drew 4 i ⟨b, 0, none⟩ i c (cs.take (i * 4)) (by rw [List.length_take]; omega) (fun j v hj => by
   rw [Addr.add_lit, Nat.zero_add]
   rw [List.getElem?_take] at hj
   split at hj
   ·
    exact hcs j v hj
   ·
    cases hj)
 have hrz : ∀ ty, (Builtin.append_ #[23, 3] ty #[.slice (some ⟨b, 0, none⟩) i c, .int .i64 ((n : Int) + 1 - (i : Int))]).run Try.prog w =
   .ok (.slice (some ⟨w.heap.size, 0, none⟩) (n + 1) (grownCap w (n + 1) c 29)) (w.drew.alloc (.cells ((cs.take (i * 4)).toArray ++ Builtin.zeroCells zS.cells (n + 1 - i) ++ Builtin.zeroCells zS.cells (grownCap w (n + 1) c 29 - (n + 1))) 29)) := fun ty => by
  have h := Lib.run_append_grow_zeros w 23 3 ty 29 i0 _ .i64 .i64 Try.underlying23 Try.underlying3 hi0 hz0 (some ⟨b, 0, none⟩) i c (cs.take (i * 4)) hold (n + 1 - i) (by omega) (by omega) (by omega) (by omega) (by rw [hzb]; omega) (by rw [hzb, hik]; exact growslice_fits hroom hbig)
  rw [hik] at h
  rw [hkk]
  exact h
 obtain ⟨G, hG⟩ : ∃ G, G = grownCap w (n + 1) c 29 := ⟨_, rfl⟩
 obtain ⟨ROW, hROW⟩ : ∃ ROW : Array Value, ROW = (cs.take (i * 4)).toArray ++ Builtin.zeroCells zS.cells (n + 1 - i) ++ Builtin.zeroCells zS.cells (G - (n + 1)) := ⟨_, rfl⟩
 rw [← hG] at hrz ⊢
 rw [← hROW] at hrz ⊢
 have hRl : (n + 1) * 4 ≤ ROW.size := by
  rw [hROW]
  simp [Builtin.zeroCells, Value.cells]
  omega
 obtain ⟨W1, hW1⟩ : ∃ W1, W1 = w.drew.alloc (.cells ROW 29) := ⟨_, rfl⟩
 rw [← hW1] at hrz
 have hN : ∀ j, j < (n + 1) * 4 → (W1.cell? ⟨w.heap.size, j, none⟩).isSome = true := fun j hj => by
  rw [hW1, World.cell?_alloc_at (w := w.drew) ROW _ w.heap.size j rfl, Array.getElem?_eq_getElem (by omega)]; rfl
 have hNf : ∀ j, W1.frozen? ⟨w.heap.size, j, none⟩ = false := fun j => by rw [hW1]; exact World.frozen?_alloc_at (w := w.drew) ROW _ w.heap.size j rfl
 have hOb : ∀ j v, w.cell? ⟨b, j, none⟩ = some v → W1.cell? ⟨b, j, none⟩ = some v := fun j v h => by rw [hW1, World.cell?_alloc_past (w := w.drew) _ b j hbw]; exact h
 have hOv : ∀ j v, w.cell? ⟨vb, j, none⟩ = some v → W1.cell? ⟨vb, j, none⟩ = some v := fun j v h => by rw [hW1, World.cell?_alloc_past (w := w.drew) _ vb j hvw]; exact h
 have hcpA : ∀ (W : World), (∀ x, W.cell? x = W1.cell? x) → (∀ x, W.frozen? x = W1.frozen? x) → ∀ ty dc, (Builtin.copy_ #[23, 23] ty #[.slice (some ⟨w.heap.size, i * 4, none⟩) (n + 1 - i) dc, .slice (some ⟨vb, 0, none⟩) 1 1]).run Try.prog W = .ok (goInt 1) (W.setCells w.heap.size (i * 4) vs) := fun W hWc hWf ty dc =>
  run_copy_k W _ _ ty 29 w.heap.size (i * 4) (n + 1 - i) dc ⟨vb, 0, none⟩ 1 1 4 1 vs Try.underlying23 size29 (by simp only [Nat.min_def]; split <;> omega) (by rw [hvl])
   (fun j v hj => by rw [Addr.add_lit, hWc, Nat.zero_add]; exact hOv _ v (hvs j v hj))
   (fun j hj => by rw [hWc]; exact hN _ (by omega)) (fun j hj => by rw [hWf]; exact hNf _) h1v
 have hGn : n + 1 ≤ G := by rw [hG]; exact grownCap_ge w _ _ _
 have hG63 : G ≤ 9223372036854775807 := by
  have := grownCap_le_maxLen w (n + 1) c 29 (by unfold maxLen; omega)
  rw [← hG] at this
  unfold maxLen at this
  omega
 have hGi : ¬ (G = i) := by omega
 have hGim : ¬ (G = i + 1) := by omega
 have hci : ¬ (c = i) := by omega
 have hbN : b ≠ w.heap.size := by omega
 have hdl : (cs.drop (i * 4)).length = (n - i) * 4 := by rw [List.length_drop, hcl]; omega
 have hcpB : ∀ (W : World), (∀ x, W.cell? x = (W1.setCells w.heap.size (i * 4) vs).cell? x) → (∀ x, W.frozen? x = (W1.setCells w.heap.size (i * 4) vs).frozen? x) → ∀ ty dc sc, (Builtin.copy_ #[23, 23] ty #[.slice (some ⟨w.heap.size, (i + 1) * 4, none⟩) (n - i) dc, .slice (some ⟨b, i * 4, none⟩) (n - i) sc]).run Try.prog W = .ok (goInt ((n - i : Nat) : Int)) (W.setCells w.heap.size ((i + 1) * 4) (cs.drop (i * 4))) := fun W hWc hWf ty dc sc =>
  run_copy_k W _ _ ty 29 w.heap.size ((i + 1) * 4) (n - i) dc ⟨b, i * 4, none⟩ (n - i) sc 4 (n - i) (cs.drop (i * 4)) Try.underlying23 size29 (by simp only [Nat.min_def]; split <;> omega) hdl
   (fun j v hj => by
    rw [Addr.add_lit, hWc, World.cell?_setCells_out _ _ _ _ _ (fun h _ => absurd h hbN)]
    exact hOb _ v (hcs (i * 4 + j) v (by rwa [List.getElem?_drop] at hj)))
   (fun j hj => by rw [hWc]; exact isSome_setCells' w.heap.size vs (i * 4) W1 (fun t ht => hN _ (by omega)) _ (hN _ (by rw [hdl] at hj; omega)))
   (fun j hj => by rw [hWf, World.frozen?_setCells]; exact hNf _) (fun v hv => h1c v (List.mem_of_mem_drop hv))
 subst hW1
 have hE1 : ∀ x, ((w.alloc (.cells ROW 29)).drew).cell? x = (w.drew.alloc (.cells ROW 29)).cell? x := fun x => rfl
 have hE2 : ∀ x, ((w.alloc (.cells ROW 29)).drew).frozen? x = (w.drew.alloc (.cells ROW 29)).frozen? x := fun x => rfl
 have hF1 : ∀ x, (((w.alloc (.cells ROW 29)).drew.setCells w.heap.size (i * 4) vs).drew).cell? x = ((w.drew.alloc (.cells ROW 29)).setCells w.heap.size (i * 4) vs).cell? x := fun x => rfl
 have hF2 : ∀ x, (((w.alloc (.cells ROW 29)).drew.setCells w.heap.size (i * 4) vs).drew).frozen? x = ((w.drew.alloc (.cells ROW 29)).setCells w.heap.size (i * 4) vs).frozen? x := fun x => rfl
 have hw1 : IntKind.i64.wrap ((i : Int) + 1) = (i : Int) + 1 := by rw [IntKind.wrap_i64]; omega
 have hb1 : (0 : Int) ≤ (i : Int) + 1 := by omega
 have hin : i ≤ n := by omega
 have htn : ((i : Int) + 1).toNat = i + 1 := by omega
 have hb3 : (i : Int) ≤ (n : Int) := by omega
 clear hkk hik hold hROW hG hRl hz0 hzs hzb hi0
 go_enter Try.func38, Try.ntmps38
 go_wp2_with (first
  | (at_builtin; refine Lib.wpList_append_run _ rfl _ _ _ _ rfl _ _ rfl rfl _ _ (hrz _) ?_)
  | (at_builtin; refine wpList_copy_runI' _ rfl _ _ 23 23 rfl _ _ rfl rfl (hcpA _ hE1 hE2 _ _) ?_)
  | (at_builtin; refine wpList_copy_runI' _ rfl _ _ 23 23 rfl _ _ rfl rfl (hcpB _ (fun _ => rfl) (fun _ => rfl) _ _ _) ?_))
 go_region_law_o (refine step_copy_runI' rfl _ _ 23 23 rfl (.slice (some ⟨w.heap.size, (i + 1) * 4, none⟩) (n - i) (G - (i + 1))) (.slice (some ⟨b, i * 4, none⟩) (n - i) (c - i)) (by simp [Act.eval, Act.put]) (by simp [Act.eval, Act.put]) (hcpB _ hF1 hF2 3 (G - (i + 1)) (c - i)) ?_)
 go_wp2
 go_ret
 exact ⟨rfl, rfl⟩
end Go.Proofs.Ytgiofigjnchfeaa.Q

namespace Go.Proofs.Ytgiofigjnchfeaa.Q
open Go.Lib Go.RowKit Go.Proofs.YtgiofigjnchfeaaW.PrintWords Go.Proofs.YtgiofigjnchfeaaW.PrintLast Go.Proofs.YtgiofigjnchfeaaW.PrintMore
set_option linter.unusedVariables false
set_option linter.unusedSimpArgs false

def c4 (x : S29) : List Value := [.int .i64 x.f0, .int .i64 x.f1, .int .i64 x.f2, .int .i64 x.f3]

theorem C_one {w : World} {g : Nat} {x : S29} (h : w.heap[g]? = some (.cells (c4 x).toArray 29 (0, 0))) : Kd.C k29 w (some ⟨g, 0, none⟩) 1 [x] := by
 refine ⟨rfl, by decide, fun hn => ⟨_, rfl, fun j p hj => ?_⟩⟩
 obtain ⟨hjl, hjp⟩ := List.getElem?_eq_some_iff.1 hj
 have hj0 : j = 0 := by simpa using hjl
 subst hj0
 obtain rfl : x = p := by simpa using hjp
 refine ⟨c4 x, rfl, k29_mk _ x, fun i u hu => ?_⟩
 rw [Nat.zero_mul, Addr.add_lit, Nat.zero_add, Nat.zero_add]
 exact (blk_cell h i).trans (by simpa using hu)

theorem grown_drew {w W : World} {r : Option Nat} (h : w.grownBy W r) : w.grownBy W.drew r := ⟨h.1, h.2, h.3, h.4, h.5⟩
theorem setCells_grown {w W : World} {r : Option Nat} {g : Nat} (h : w.grownBy W r) (hg : r = some g ∨ w.heap.size ≤ g) (o : Nat) (vs : List Value) : w.grownBy (W.setCells g o vs) r := by
 have hsame := setCells_same g vs o W
 refine ⟨hsame.1.trans h.1, hsame.2.1.trans h.2, hsame.2.2.1.trans h.3, by rw [hsame.2.2.2]; exact h.4, fun k hk hne => (setCells_far vs _ k (fun e => ?_)).trans (h.5 k hk hne)⟩
 rcases hg with hg | hg
 ·
  exact hne (by rw [hg, e])
 ·
  omega

set_option maxHeartbeats 8000000 in
set_option maxRecDepth 100000 in
theorem Insert_end (base : Nat) (A : Option Addr) (c vb : Nat) (l : List S29) (x : S29) (w : World) (hR : Kd.R k29 29 w base (fun _ => True) (.slice A l.length c) l) (hvb : w.heap[vb]? = some (.cells (c4 x).toArray 29 (0, 0))) (hb : base ≤ w.heap.size) (hl : l.length ≤ 4398046510000) :
  Calls Try.prog 38 #[.slice A l.length c, .int .i64 l.length, .slice (some ⟨vb, 0, none⟩) 1 1] w fun e w' => ∃ v : Value, e = .returned v ∧ Kd.R k29 29 w' base (fun _ => True) v (l ++ [x]) ∧ w.grownBy w' (.slice A l.length c : Value).ownBlock := by
 have HR := Aside0.mk hR
 have HV := Aside0.mk hvb
 have HB := Aside0.mk hb
 have HL := Aside0.mk hl
 have hnc := (Kd.R_reads' hR).2.1
 have hm : l.length ≤ 9223372036854775807 := by omega
 clear hR hvb hb hl
 cases A with
 | none =>
  go_enter Try.func38, Try.ntmps38
  go_wp2_with (at_builtin; refine Kd.R_append_rows k29 (Rr := k29.K w) (w0 := w) base rfl (.tmp 23) (.tmp 24) 23 29 (.agg #[.int .i64 0, .int .i64 0, .int .i64 0, .int .i64 0]) 32 rfl Try.underlying23 info29' rfl (by decide) (by decide) (.slice none l.length c) l [x] (some ⟨vb, 0, none⟩) 1 1 (fun _ => True) (fun _ => False) rfl rfl ?aO ?aR (fun x cs h => Flat.k29 _ _ _ _ _ _ h) (fun _ h => h.elim) (fun _ _ => trivial) ?aB ?aS ?aL ?_; (case aO => exact HR.out); (case aR => exact C_one HV.out); (case aB => exact (Below.refl _ _).mono HB.out); (case aS => exact HB.out); (case aL => have := HL.out; simp; omega); intro v1 w1 ho hb hgr hat)
  all_goals go_ret
  all_goals exact ⟨_, rfl, ho, hgr⟩
 | some ad =>
  go_enter Try.func38, Try.ntmps38
  go_wp2_with (at_builtin; refine Kd.R_append_rows k29 (Rr := k29.K w) (w0 := w) base rfl (.tmp 23) (.tmp 24) 23 29 (.agg #[.int .i64 0, .int .i64 0, .int .i64 0, .int .i64 0]) 32 rfl Try.underlying23 info29' rfl (by decide) (by decide) (.slice (some ad) l.length c) l [x] (some ⟨vb, 0, none⟩) 1 1 (fun _ => True) (fun _ => False) rfl rfl ?aO ?aR (fun x cs h => Flat.k29 _ _ _ _ _ _ h) (fun _ h => h.elim) (fun _ _ => trivial) ?aB ?aS ?aL ?_; (case aO => exact HR.out); (case aR => exact C_one HV.out); (case aB => exact (Below.refl _ _).mono HB.out); (case aS => exact HB.out); (case aL => have := HL.out; simp; omega); intro v1 w1 ho hb hgr hat)
  all_goals go_ret
  all_goals exact ⟨_, rfl, ho, hgr⟩

theorem take_mid {α : Type} {A B C D : List α} {k : Nat} (h : k = (A ++ B ++ C).length) : (A ++ B ++ C ++ D).take k = A ++ B ++ C := by
 rw [h, List.take_left]

theorem shape_blk {w : World} {g : Nat} {cs : Array Value} {t : TypeId} (h : w.heap[g]? = some (.cells cs t (0, 0))) : w.shape? g = some (t, cs.size) := by simp [World.shape?, h]

set_option maxHeartbeats 2000000 in
theorem slices_Insert.calls (base : Nat) (v0 : Value) (i vb : Nat) (l : List S29) (x : S29) (w : World) (hR : Kd.R k29 29 w base (fun _ => True) v0 l) (hi : i ≤ l.length) (hvb : w.heap[vb]? = some (.cells (c4 x).toArray 29 (0, 0))) (hne : some vb ≠ v0.ownBlock) (hb : base ≤ w.heap.size) (hl : l.length ≤ 4398046510000) :
  Calls Try.prog 38 #[v0, .int .i64 i, .slice (some ⟨vb, 0, none⟩) 1 1] w fun e w' => ∃ v : Value, e = .returned v ∧ Kd.R k29 29 w' base (fun _ => True) v (l.take i ++ [x] ++ l.drop i) ∧ w.grownBy w' v0.ownBlock := by
 by_cases hin : i = l.length
 ·
  subst hin
  obtain ⟨A, c, rfl⟩ := Kd.R_slice hR
  refine (Insert_end base A c vb l x w hR hvb hb hl).mono ?_
  rintro e w' ⟨v, rfl, h1, h2⟩
  refine ⟨v, rfl, ?_, h2⟩
  rw [List.take_length, List.drop_length, List.append_nil]
  exact h1
 ·
  have hlt : i < l.length := by omega
  obtain ⟨_, inner, ho, hr⟩ := id hR
  obtain ⟨ad, c, rfl⟩ := R_one hR (by omega)
  obtain ⟨hil, h2⟩ := ho
  rcases h2 with ⟨he, _⟩ | ⟨g, cap, cur, he, hbg, hh, hnc, hcm, hcs, ht⟩
  ·
   cases he
  ·
   simp only [Value.slice.injEq, Option.some.injEq] at he
   obtain ⟨rfl, _, rfl⟩ := he
   have hil4 : inner.length = l.length * 4 := hil
   have hcs4 : cur.size = c * 4 := hcs
   have ht4 : cur.toList.take (l.length * 4) = inner := ht
   have hcl : cur.toList.length = cur.size := Array.length_toList
   have hgv : vb ≠ g := fun e => hne (by rw [e]; rfl)
   have hvcell : ∀ j v, (c4 x)[j]? = some v → w.cell? ⟨vb, j, none⟩ = some v := fun j v hj => (blk_cell hvb j).trans (by simpa using hj)
   have hccell : ∀ j v, inner[j]? = some v → w.cell? ⟨g, j, none⟩ = some v := fun j v hj => (blk_cell hh j).trans (by
    rw [← ht4, List.getElem?_take] at hj
    split at hj
    ·
     rw [← Array.getElem?_toList]; exact hj
    ·
     cases hj)
   have h1v : ∀ v ∈ c4 x, v.oneCell' = true := by
    intro v hv
    simp only [c4, List.mem_cons, List.mem_nil_iff, or_false] at hv
    rcases hv with rfl | rfl | rfl | rfl <;> rfl
   have hrK : Reps (k29.K w) 4 l inner := hr.imp_ (fun p c h => k29.K_of_M h)
   have h1c : ∀ v ∈ inner, v.oneCell' = true := by
    intro v hv
    obtain ⟨j, hj, rfl⟩ := List.getElem_of_mem hv
    have hjl : j / 4 < l.length := by omega
    have hk := hrK.2 (j / 4) l[j / 4] (List.getElem?_eq_getElem hjl)
    refine k29.K_one hk _ ?_
    refine List.mem_iff_getElem?.2 ⟨j % 4, ?_⟩
    rw [List.getElem?_take, if_pos (Nat.mod_lt _ (by decide)), List.getElem?_drop, show j / 4 * 4 + j % 4 = j by omega]
    exact List.getElem?_eq_getElem hj
   have hfin : Reps (k29.K w) 4 (l.take i ++ [x] ++ l.drop i) (inner.take (i * 4) ++ c4 x ++ inner.drop (i * 4)) :=
    Kd.reps_append (Kd.reps_append (Kd.reps_take hrK hi) (Go.Proofs.Ytgiofigjnchfeaa.Q.Reps.one (k29_mk w x) rfl)) (Kd.reps_drop hrK)
   have hfl : (inner.take (i * 4) ++ c4 x ++ inner.drop (i * 4)).length = (l.length + 1) * 4 := by
    simp only [List.length_append, List.length_take, List.length_drop, hil4, c4, List.length_cons, List.length_nil]
    omega
   have hll : (l.take i ++ [x] ++ l.drop i).length = l.length + 1 := by
    simp only [List.length_append, List.length_take, List.length_drop, List.length_cons, List.length_nil]
    omega
   have hsA : w.shape? vb = some (29, 4) := shape_blk hvb
   have hsB : w.shape? g = some (29, c * 4) := by rw [shape_blk hh, hcs4]
   by_cases hroom : l.length + 1 ≤ c
   ·
    refine (Insert_shift g l.length c i vb inner (c4 x) w hlt hroom hcm hgv hil4 rfl hccell (fun j hj => by
     rw [blk_cell hh j, Array.getElem?_eq_getElem (by omega)]; rfl) (fun j => blk_frozen hh j) hvcell h1c h1v 29 29 4 (c * 4) hsA hsB (by omega) (blk_frozen hvb 0) (blk_frozen hvb 4)).mono ?_
    rintro e w' ⟨rfl, rfl⟩
    obtain ⟨cur1, hc1, hs1, hl1⟩ := setCells_row (inner.drop (i * 4)) ((i + 1) * 4) w.drew cur hh (by rw [List.length_drop]; omega)
    obtain ⟨cur2, hc2, hs2, hl2⟩ := setCells_row (c4 x) (i * 4) _ cur1 hc1 (by show i * 4 + 4 ≤ _; omega)
    have e1 : cur1.toList.take (i * 4) = inner.take (i * 4) := by
     rw [hl1, List.append_assoc, List.take_append_of_le_length (by rw [List.length_take]; omega), List.take_take, Nat.min_eq_left (by omega), ← ht4, List.take_take, Nat.min_eq_left (by omega)]
    have e2 : cur1.toList.drop (i * 4 + (c4 x).length) = inner.drop (i * 4) ++ cur.toList.drop ((i + 1) * 4 + (inner.drop (i * 4)).length) := by
     rw [hl1, List.append_assoc]
     exact List.drop_left' (by rw [List.length_take]; show _ = i * 4 + 4; omega)
    refine ⟨_, rfl, ?_, ?_⟩
    ·
     rw [← hll]
     refine flat_R Flat.k29 (w0 := w) (inner := inner.take (i * 4) ++ c4 x ++ inner.drop (i * 4)) ⟨by rw [hfl, hll]; rfl, .inr ⟨g, c, cur2, rfl, hbg, hc2, by rw [hll]; omega, hcm, by rw [hs2, hs1]; exact hcs, ?_⟩⟩ hfin
     rw [hl2, e1, e2, hll, ← List.append_assoc]
     exact take_mid hfl.symm
    ·
     have hX : w.grownBy w.drew (some g) := ⟨rfl, rfl, rfl, Nat.le_refl _, fun _ _ _ => rfl⟩
     exact setCells_grown (setCells_grown hX (.inl rfl) _ _) (.inl rfl) _ _
   ·
    refine (Insert_grow g l.length c i vb inner (c4 x) w hlt hnc (by omega) (by omega) hil4 rfl hccell hvcell h1c h1v).mono ?_
    rintro e w' ⟨rfl, rfl⟩
    have hGn : l.length + 1 ≤ grownCap w (l.length + 1) c 29 := grownCap_ge w _ _ _
    have hGm : grownCap w (l.length + 1) c 29 ≤ maxLen := grownCap_le_maxLen w (l.length + 1) c 29 (by unfold maxLen; omega)
    generalize hG : grownCap w (l.length + 1) c 29 = G at hGn hGm ⊢
    obtain ⟨ROW, hROW⟩ : ∃ ROW : Array Value, ROW = (inner.take (i * 4)).toArray ++ Builtin.zeroCells zS.cells (l.length + 1 - i) ++ Builtin.zeroCells zS.cells (G - (l.length + 1)) := ⟨_, rfl⟩
    rw [← hROW]
    have hRs : ROW.size = G * 4 := by
     rw [hROW]
     simp [Builtin.zeroCells, Value.cells, List.length_take]
     omega
    have hRt : ROW.toList.take (i * 4) = inner.take (i * 4) := by
     rw [hROW, Array.toList_append, Array.toList_append, List.append_assoc]
     exact List.take_left' (by rw [List.length_take]; omega)
    have hRl : ROW.toList.length = G * 4 := by rw [Array.length_toList, hRs]
    have hnew : (w.alloc (.cells ROW 29)).drew.heap[w.heap.size]? = some (.cells ROW 29 (0, 0)) := blk_new _ _
    obtain ⟨cur1, hc1, hs1, hl1⟩ := setCells_row (c4 x) (i * 4) _ ROW hnew (by show i * 4 + 4 ≤ _; omega)
    have hc1' : (((w.alloc (.cells ROW 29)).drew.setCells w.heap.size (i * 4) (c4 x)).drew).heap[w.heap.size]? = some (.cells cur1 29 (0, 0)) := hc1
    obtain ⟨cur2, hc2, hs2, hl2⟩ := setCells_row (inner.drop (i * 4)) ((i + 1) * 4) _ cur1 hc1' (by rw [List.length_drop]; omega)
    have e1 : cur1.toList.take ((i + 1) * 4) = inner.take (i * 4) ++ c4 x := by
     rw [hl1, hRt]
     exact List.take_left' (by simp only [List.length_append, List.length_take, c4, List.length_cons, List.length_nil]; omega)
    refine ⟨_, rfl, ?_, ?_⟩
    ·
     rw [← hll]
     refine flat_R Flat.k29 (w0 := w) (inner := inner.take (i * 4) ++ c4 x ++ inner.drop (i * 4)) ⟨by rw [hfl, hll]; rfl, .inr ⟨w.heap.size, G, cur2, by rw [hll], hb, hc2, by rw [hll]; omega, hGm, by rw [hs2, hs1]; exact hRs, ?_⟩⟩ hfin
     rw [hl2, e1, hll]
     exact take_mid hfl.symm
    ·
     have hX : w.grownBy (w.alloc (.cells ROW 29)) (some g) := ⟨rfl, rfl, rfl, by simp, fun k hk _ => Below.heap_alloc _ _ k hk⟩
     exact setCells_grown (grown_drew (setCells_grown (grown_drew hX) (.inr (Nat.le_refl _)) _ _)) (.inr (Nat.le_refl _)) _ _
end Go.Proofs.Ytgiofigjnchfeaa.Q

namespace Go.Proofs.Ytgiofigjnchfeaa.Q
open Go.RowKit Go.Proofs.YtgiofigjnchfeaaW.PrintWords Go.Proofs.YtgiofigjnchfeaaW.PrintLast Go.Proofs.YtgiofigjnchfeaaW.PrintMore
set_option linter.unusedVariables false
set_option linter.unusedSimpArgs false

def bump (m : List Int) (s : S29) : List Int := m.set s.f0.toNat (rd m s.f0 + 1)
theorem bump_length (m : List Int) (s : S29) : (bump m s).length = m.length := by simp [bump]
def cntsL (M : List Int) (L : List S29) : List Int := L.foldl bump (List.replicate M.length 0)
theorem foldl_bump_length : ∀ (L : List S29) (m : List Int), (L.foldl bump m).length = m.length
 | [], _ => rfl
 | s :: r, m => by rw [List.foldl_cons, foldl_bump_length r, bump_length]
theorem bump_bound (m : List Int) (s : S29) (N : Int) (h : ∀ i : Int, 0 ≤ rd m i ∧ rd m i ≤ N) (i : Int) : 0 ≤ rd (bump m s) i ∧ rd (bump m s) i ≤ N + 1 := by
 have hs := h s.f0
 have hi := h i
 unfold bump
 have e : rd (m.set s.f0.toNat (rd m s.f0 + 1)) i = rd m s.f0 + 1 ∨ rd (m.set s.f0.toNat (rd m s.f0 + 1)) i = rd m i := by
  simp only [rd, List.getD_eq_getElem?_getD, List.getElem?_set]
  split
  ·
   split
   ·
    left; rfl
   ·
    right
    rename_i h1 h2
    have : m.length ≤ i.toNat := by omega
    simp [this]
  ·
   right; rfl
 omega
theorem foldl_bump_bound : ∀ (L : List S29) (m : List Int) (N : Int), (∀ i : Int, 0 ≤ rd m i ∧ rd m i ≤ N) → ∀ i : Int, 0 ≤ rd (L.foldl bump m) i ∧ rd (L.foldl bump m) i ≤ N + L.length
 | [], m, N, h, i => by simpa using h i
 | s :: r, m, N, h, i => by
  have := foldl_bump_bound r (bump m s) (N + 1) (bump_bound m s N h) i
  rw [List.foldl_cons, List.length_cons]
  omega
theorem rd_replicate (n : Nat) (i : Int) : rd (List.replicate n 0) i = 0 := by
 simp only [rd, List.getD_eq_getElem?_getD, List.getElem?_replicate]
 split <;> rfl
/-- The best one's place, of the first ones. -/
def bestStep (M m : List Int) (b : Int) (c : Nat) : Int := if rd m (c : Int) < rd M (c : Int) then (if b < 0 then (c : Int) else if rd m (c : Int) < rd m b then (c : Int) else b) else b
def bestTo (M m : List Int) : Nat → Int
 | 0 => -1
 | n + 1 => bestStep M m (bestTo M m n) n
theorem bestTo_range (M m : List Int) : ∀ n, -1 ≤ bestTo M m n ∧ bestTo M m n < (n : Int)
 | 0 => by simp [bestTo]
 | n + 1 => by
  have := bestTo_range M m n
  simp only [bestTo, bestStep]
  split
  ·
   split
   ·
    omega
   ·
    split <;> omega
  ·
   omega
def chStep (b : Int) (ch : Int) (s : S29) : Int := if s.f0 = b then (if s.f1 = ch then ch + 1 else ch) else ch
def chL (b : Int) (L : List S29) : Int := L.foldl (chStep b) 1
theorem chStep_range (b ch : Int) (s : S29) : ch ≤ chStep b ch s ∧ chStep b ch s ≤ ch + 1 := by
 unfold chStep
 split
 ·
  split <;> omega
 ·
  omega
theorem foldl_chStep_range (b : Int) : ∀ (L : List S29) (ch : Int), ch ≤ L.foldl (chStep b) ch ∧ L.foldl (chStep b) ch ≤ ch + L.length
 | [], ch => by simp
 | s :: r, ch => by
  have h1 := chStep_range b ch s
  have h2 := foldl_chStep_range b r (chStep b ch s)
  rw [List.foldl_cons, List.length_cons]
  omega
def ltB (s x : S29) : Bool := decide (s.f0 < x.f0) || (s.f0 == x.f0 && decide (s.f1 < x.f1))
def insAt (s : S29) (L : List S29) : Nat := if idxP (ltB s) L < 0 then L.length else (idxP (ltB s) L).toNat
def insL (s : S29) (L : List S29) : List S29 := L.take (insAt s L) ++ [s] ++ L.drop (insAt s L)
theorem insAt_le (s : S29) (L : List S29) : insAt s L ≤ L.length := by
 unfold insAt
 rcases idxP_cases (ltB s) L with ⟨h1, -⟩ | ⟨n, hn, h1, -⟩
 ·
  rw [h1]; simp
 ·
  rw [h1]; split <;> omega
def pool_Lease.f (M : List Int) (L : List S29) (who : Int) : Option (List Int × List S29 × Int × Int × Int × Int × Int) :=
 if who < 1 then some (M, L, 0, 0, 0, 0, 1) else
 match L.find? (ofP who) with
 | some _ => some (M, L, 0, 0, 0, 0, 14)
 | none =>
  if L.length ≤ 4398046510000 ∧ M.length ≤ 17592186044416 ∧ (L.all fun s => decide (0 ≤ s.f0) && decide (s.f0 < (M.length : Int))) = true then
   if bestTo M (cntsL M L) M.length < 0 then some (M, L, 0, 0, 0, 0, 12) else
   some (M, insL ⟨bestTo M (cntsL M L) M.length, chL (bestTo M (cntsL M L) M.length) L, 1, who⟩ L, bestTo M (cntsL M L) M.length, chL (bestTo M (cntsL M L) M.length) L, 1, who, 0)
  else none
end Go.Proofs.Ytgiofigjnchfeaa.Q

namespace Go.Proofs.Ytgiofigjnchfeaa.Q
open Go.RowKit Go.Proofs.YtgiofigjnchfeaaW.PrintWords Go.Proofs.YtgiofigjnchfeaaW.PrintLast Go.Proofs.YtgiofigjnchfeaaW.PrintMore
set_option linter.unusedVariables false
set_option linter.unusedSimpArgs false

section
variable {P : Program}
theorem results_cct {fn : Func} {p p' u : Tmp} {ty ty' : TypeId} (h : fn.results = #[.cell p ty, .cell p' ty', .tmp u]) (tmps : Array Value) (w : World) (g g' : Nat) (t t' : TypeId) (cs cs' : Array Value) (fr fr' : Nat × Nat) (d d' : TypeDesc)
  (hp : tmps.getD p undef = .pointer (some ⟨g, 0, none⟩)) (hg : w.heap[g]? = some (.cells cs t fr))
  (hu : P.underlying ty = some d) (hd : (match d with | .struct _ | .array _ _ => true | _ => false) = true) (hi : (P.info? ty).map (·.size) = some cs.size)
  (hp' : tmps.getD p' undef = .pointer (some ⟨g', 0, none⟩)) (hg' : w.heap[g']? = some (.cells cs' t' fr'))
  (hu' : P.underlying ty' = some d') (hd' : (match d' with | .struct _ | .array _ _ => true | _ => false) = true) (hi' : (P.info? ty').map (·.size) = some cs'.size) :
  (results fn tmps).run P w = .ok (.tuple #[.agg cs, .agg cs', tmps.getD u undef]) w := by
 have h1 : tmps[p]?.getD undef = .pointer (some ⟨g, 0, none⟩) := by simpa using hp
 have h2 : tmps[p']?.getD undef = .pointer (some ⟨g', 0, none⟩) := by simpa using hp'
 simp [results, h, h1, h2, asAddr, run_loadVar_row w g t ty cs fr d hg hu hd hi, run_loadVar_row w g' t' ty' cs' fr' d' hg' hu' hd' hi']
end

def finW (W : World) (B1 B2 : Nat) (u0 u1 v0 v1 v2 v3 : Value) : World :=
 (((((W.setCell ⟨B1, 0, none⟩ u0).setCell ⟨B1, 1, none⟩ u1).setCell ⟨B2, 0, none⟩ v0).setCell ⟨B2, 1, none⟩ v1).setCell ⟨B2, 2, none⟩ v2).setCell ⟨B2, 3, none⟩ v3
theorem finW_b1 {W : World} {B1 B2 : Nat} {p0 p1 : Value} {t : TypeId} (b1 : W.heap[B1]? = some (.cells #[p0, p1] t (0, 0))) (hne : B1 ≠ B2) (u0 u1 v0 v1 v2 v3 : Value) : (finW W B1 B2 u0 u1 v0 v1 v2 v3).heap[B1]? = some (.cells #[u0, u1] t (0, 0)) := by
 unfold finW
 refine blk_far (blk_far (blk_far (blk_far ?_ hne _) hne _) hne _) hne _
 exact blk_put (cs := #[u0, p1]) (blk_put (cs := #[p0, p1]) b1 0 _ rfl) 1 _ rfl
theorem finW_b2 {W : World} {B1 B2 : Nat} {q0 q1 q2 q3 : Value} {t : TypeId} (b2 : W.heap[B2]? = some (.cells #[q0, q1, q2, q3] t (0, 0))) (hne : B1 ≠ B2) (u0 u1 v0 v1 v2 v3 : Value) : (finW W B1 B2 u0 u1 v0 v1 v2 v3).heap[B2]? = some (.cells #[v0, v1, v2, v3] t (0, 0)) := by
 unfold finW
 refine blk_put (cs := #[v0, v1, v2, q3]) (blk_put (cs := #[v0, v1, q2, q3]) (blk_put (cs := #[v0, q1, q2, q3]) (blk_put (cs := #[q0, q1, q2, q3]) ?_ 0 _ rfl) 1 _ rfl) 2 _ rfl) 3 _ rfl
 exact blk_far (blk_far b2 hne.symm _) hne.symm _
theorem finW_below {w W : World} {B1 B2 : Nat} (h : Below w.heap.size w W) (h1 : w.heap.size ≤ B1) (h2 : w.heap.size ≤ B2) (u0 u1 v0 v1 v2 v3 : Value) : Below w.heap.size w (finW W B1 B2 u0 u1 v0 v1 v2 v3) :=
 below_set (below_set (below_set (below_set (below_set (below_set h h1) h1) h2) h2) h2) h2
abbrev Z29 : Array Value := #[.int .i64 0, .int .i64 0, .int .i64 0, .int .i64 0]

set_option maxHeartbeats 8000000 in
set_option maxRecDepth 100000 in
theorem Lease_low (P0 : Nat → Prop) (A0 : Option Addr) (c0 : Nat) (l0_0 : List Int) (P1 : Nat → Prop) (A : Option Addr) (c : Nat) (l : List S29) (a1 : Int) (w : World) (hs0 : Kd.V (Kd.int .i64) 3 w w.heap.size (fun k_ => P0 k_) (.slice A0 l0_0.length c0) l0_0) (hs1 : Kd.V k29 29 w w.heap.size (fun k_ => P1 k_) (.slice A l.length c) l) (hlow : a1 < 1) :
  Calls Try.prog 12 #[.agg #[.slice A0 l0_0.length c0, .slice A l.length c], .int .i64 a1] w fun e w' => ∃ v0_ v1_ : Value, e = .returned (.tuple #[.agg #[v0_, v1_], .agg #[.int .i64 0, .int .i64 0, .int .i64 0, .int .i64 0], .int .i64 1]) ∧ Kd.V (Kd.int .i64) 3 w' w.heap.size (fun k_ => ((P0 k_ ∨ P1 k_) ∨ w.heap.size ≤ k_)) v0_ l0_0 ∧ Kd.V k29 29 w' w.heap.size (fun k_ => ((P0 k_ ∨ P1 k_) ∨ w.heap.size ≤ k_)) v1_ l ∧ Below w.heap.size w w' := by
 have HS0 := Aside0.mk hs0
 have HS1 := Aside0.mk hs1
 clear hs0 hs1
 generalize l0_0.length = n0 at *
 generalize l.length = n1 at *
 have HB1 : Aside0 ((((w.alloc (.cells #[.slice A0 n0 c0, .slice A n1 c] 25)).alloc (.cells #[.slice A0 n0 c0, .slice A n1 c] 25)).alloc (.cells Z29 29)).heap[w.heap.size + 1]? = some (.cells #[.slice A0 n0 c0, .slice A n1 c] 25 (0, 0))) := ⟨blk_alloc (by simpa using blk_new (w.alloc (.cells #[.slice A0 n0 c0, .slice A n1 c] 25)) (.cells #[.slice A0 n0 c0, .slice A n1 c] 25)) _⟩
 have HB2 : Aside0 ((((w.alloc (.cells #[.slice A0 n0 c0, .slice A n1 c] 25)).alloc (.cells #[.slice A0 n0 c0, .slice A n1 c] 25)).alloc (.cells Z29 29)).heap[w.heap.size + 1 + 1]? = some (.cells Z29 29 (0, 0))) := ⟨by simpa using blk_new ((w.alloc (.cells #[.slice A0 n0 c0, .slice A n1 c] 25)).alloc (.cells #[.slice A0 n0 c0, .slice A n1 c] 25)) (.cells Z29 29)⟩
 have HBF : Aside0 (Below w.heap.size w (((w.alloc (.cells #[.slice A0 n0 c0, .slice A n1 c] 25)).alloc (.cells #[.slice A0 n0 c0, .slice A n1 c] 25)).alloc (.cells Z29 29))) := ⟨below_alloc (below_alloc (below_alloc (Below.refl _ _) _) _) _⟩
 go_enter Try.func12, Try.ntmps12
 go_wp2
 refine bodyPost_ret (results_cct rfl _ _ (w.heap.size + 1) (w.heap.size + 1 + 1) 25 29 #[.slice A0 n0 c0, .slice A n1 c] Z29 (0, 0) (0, 0) _ _ rfl HB1.out Try.underlying25 rfl (by kernel_rfl) rfl HB2.out Try.underlying29 rfl (by kernel_rfl)) rfl ?_
 exact ⟨_, _, rfl, Kd.V_mono (Kd.V_below HS0.out HBF.out) (fun k hk => Or.inl (Or.inl hk)), Kd.V_mono (Kd.V_below HS1.out HBF.out) (fun k hk => Or.inl (Or.inr hk)), HBF.out⟩

theorem neq_slot (x0 x1 x2 x3 : Int) (h : x3 ≠ 0) (w : World) : Sem.run Try.prog (binOp BinOp.neq 29 (.agg #[.int .i64 x0, .int .i64 x1, .int .i64 x2, .int .i64 x3]) (.agg #[.int .i64 0, .int .i64 0, .int .i64 0, .int .i64 0])) w = .ok (.bool true) w := by
 have hu := Try.underlying29
 have hu3 := Try.underlying3
 go_simp

set_option maxHeartbeats 8000000 in
set_option maxRecDepth 100000 in
theorem Lease_had (P0 : Nat → Prop) (A0 : Option Addr) (c0 : Nat) (l0_0 : List Int) (P1 : Nat → Prop) (A : Option Addr) (c : Nat) (l : List S29) (a1 : Int) (w : World) (hs0 : Kd.V (Kd.int .i64) 3 w w.heap.size (fun k_ => P0 k_) (.slice A0 l0_0.length c0) l0_0) (hs1 : Kd.V k29 29 w w.heap.size (fun k_ => P1 k_) (.slice A l.length c) l) (hlow : ¬ a1 < 1) (s : S29) (hf : l.find? (ofP a1) = some s) :
  Calls Try.prog 12 #[.agg #[.slice A0 l0_0.length c0, .slice A l.length c], .int .i64 a1] w fun e w' => ∃ v0_ v1_ : Value, e = .returned (.tuple #[.agg #[v0_, v1_], .agg #[.int .i64 0, .int .i64 0, .int .i64 0, .int .i64 0], .int .i64 14]) ∧ Kd.V (Kd.int .i64) 3 w' w.heap.size (fun k_ => ((P0 k_ ∨ P1 k_) ∨ w.heap.size ≤ k_)) v0_ l0_0 ∧ Kd.V k29 29 w' w.heap.size (fun k_ => ((P0 k_ ∨ P1 k_) ∨ w.heap.size ≤ k_)) v1_ l ∧ Below w.heap.size w w' := by
 have HS0 := Aside0.mk hs0
 have HS1 := Aside0.mk hs1
 have hs3 : s.f3 ≠ 0 := by
  have := List.find?_some hf
  simp only [ofP, Bool.and_eq_true, beq_iff_eq, decide_eq_true_eq] at this
  omega
 have HOF : Aside0 (∀ W, Below w.heap.size w W → Calls Try.prog 14 #[.agg #[.slice A0 l0_0.length c0, .slice A l.length c], .int .i64 a1] W fun e w' => e = .returned (.tuple #[.agg #[.int .i64 s.f0, .int .i64 s.f1, .int .i64 s.f2, .int .i64 s.f3], .bool true]) ∧ Below W.heap.size W w') := ⟨fun W hW => pool_Of.calls A0 c0 l0_0 A c l a1 s.f0 s.f1 s.f2 s.f3 true W (Kd.C_below (Kd.V_reads' hs0).2.2 hW) (Kd.V_reads' hs0).2.1 (Kd.C_below (Kd.V_reads' hs1).2.2 hW) (Kd.V_reads' hs1).2.1 (by unfold pool_Of.f; rw [hf])⟩
 clear hs0 hs1
 generalize l0_0.length = n0 at *
 generalize l.length = n1 at *
 have hne : ∀ W, Sem.run Try.prog (binOp BinOp.neq 29 (.agg #[.int .i64 s.f0, .int .i64 s.f1, .int .i64 s.f2, .int .i64 s.f3]) (.agg #[.int .i64 0, .int .i64 0, .int .i64 0, .int .i64 0])) W = .ok (.bool true) W := neq_slot _ _ _ _ hs3
 have HB0 : Aside0 ((((w.alloc (.cells #[.slice A0 n0 c0, .slice A n1 c] 25)).alloc (.cells #[.slice none 0 0, .slice none 0 0] 25)).alloc (.cells Z29 29)).heap[w.heap.size]? = some (.cells #[.slice A0 n0 c0, .slice A n1 c] 25 (0, 0))) := ⟨blk_alloc (blk_alloc (blk_new _ _) _) _⟩
 have HB1 : Aside0 ((((w.alloc (.cells #[.slice A0 n0 c0, .slice A n1 c] 25)).alloc (.cells #[.slice none 0 0, .slice none 0 0] 25)).alloc (.cells Z29 29)).heap[w.heap.size + 1]? = some (.cells #[.slice none 0 0, .slice none 0 0] 25 (0, 0))) := ⟨blk_alloc (by simpa using blk_new (w.alloc (.cells #[.slice A0 n0 c0, .slice A n1 c] 25)) (.cells #[.slice none 0 0, .slice none 0 0] 25)) _⟩
 have HB2 : Aside0 ((((w.alloc (.cells #[.slice A0 n0 c0, .slice A n1 c] 25)).alloc (.cells #[.slice none 0 0, .slice none 0 0] 25)).alloc (.cells Z29 29)).heap[w.heap.size + 1 + 1]? = some (.cells Z29 29 (0, 0))) := ⟨by simpa using blk_new ((w.alloc (.cells #[.slice A0 n0 c0, .slice A n1 c] 25)).alloc (.cells #[.slice none 0 0, .slice none 0 0] 25)) (.cells Z29 29)⟩
 have HBF : Aside0 (Below w.heap.size w (((w.alloc (.cells #[.slice A0 n0 c0, .slice A n1 c] 25)).alloc (.cells #[.slice none 0 0, .slice none 0 0] 25)).alloc (.cells Z29 29))) := ⟨below_alloc (below_alloc (below_alloc (Below.refl _ _) _) _) _⟩
 clear hf hs3
 go_enter Try.func12, Try.ntmps12
 go_wp2_with (go_at_call 14; refine (HOF.out _ HBF.out).mono ?_; rintro e w4 ⟨rfl, hb⟩; have b0 := blk_below HB0.out hb; have b0_0 : w4.cell? ⟨w.heap.size, 0, none⟩ = some (.slice A0 n0 c0) := (blk_cell b0 0).trans rfl; have b0_1 : w4.cell? ⟨w.heap.size, 1, none⟩ = some (.slice A n1 c) := (blk_cell b0 1).trans rfl; have b0_f := fun j => blk_frozen b0 j; have b1 := blk_below HB1.out hb; have b1_0 : w4.cell? ⟨w.heap.size + 1, 0, none⟩ = some (.slice none 0 0) := (blk_cell b1 0).trans rfl; have b1_1 : w4.cell? ⟨w.heap.size + 1, 1, none⟩ = some (.slice none 0 0) := (blk_cell b1 1).trans rfl; have b1_f := fun j => blk_frozen b1 j; have b2 := blk_below HB2.out hb; have b2_0 : w4.cell? ⟨w.heap.size + 1 + 1, 0, none⟩ = some (.int .i64 0) := (blk_cell b2 0).trans rfl; have b2_1 : w4.cell? ⟨w.heap.size + 1 + 1, 1, none⟩ = some (.int .i64 0) := (blk_cell b2 1).trans rfl; have b2_2 : w4.cell? ⟨w.heap.size + 1 + 1, 2, none⟩ = some (.int .i64 0) := (blk_cell b2 2).trans rfl; have b2_3 : w4.cell? ⟨w.heap.size + 1 + 1, 3, none⟩ = some (.int .i64 0) := (blk_cell b2 3).trans rfl; have b2_f := fun j => blk_frozen b2 j; have d0 := blk_alloc b0 (.cells #[.int .i64 s.f0, .int .i64 s.f1, .int .i64 s.f2, .int .i64 s.f3] 29); have d0_0 : (w4.alloc (.cells #[.int .i64 s.f0, .int .i64 s.f1, .int .i64 s.f2, .int .i64 s.f3] 29)).cell? ⟨w.heap.size, 0, none⟩ = some (.slice A0 n0 c0) := (blk_cell d0 0).trans rfl; have d0_1 : (w4.alloc (.cells #[.int .i64 s.f0, .int .i64 s.f1, .int .i64 s.f2, .int .i64 s.f3] 29)).cell? ⟨w.heap.size, 1, none⟩ = some (.slice A n1 c) := (blk_cell d0 1).trans rfl; have d0_f := fun j => blk_frozen d0 j; have d1 := blk_alloc b1 (.cells #[.int .i64 s.f0, .int .i64 s.f1, .int .i64 s.f2, .int .i64 s.f3] 29); have d1_0 : (w4.alloc (.cells #[.int .i64 s.f0, .int .i64 s.f1, .int .i64 s.f2, .int .i64 s.f3] 29)).cell? ⟨w.heap.size + 1, 0, none⟩ = some (.slice none 0 0) := (blk_cell d1 0).trans rfl; have d1_1 : (w4.alloc (.cells #[.int .i64 s.f0, .int .i64 s.f1, .int .i64 s.f2, .int .i64 s.f3] 29)).cell? ⟨w.heap.size + 1, 1, none⟩ = some (.slice none 0 0) := (blk_cell d1 1).trans rfl; have d1_f := fun j => blk_frozen d1 j; have d2 := blk_alloc b2 (.cells #[.int .i64 s.f0, .int .i64 s.f1, .int .i64 s.f2, .int .i64 s.f3] 29); have d2_0 : (w4.alloc (.cells #[.int .i64 s.f0, .int .i64 s.f1, .int .i64 s.f2, .int .i64 s.f3] 29)).cell? ⟨w.heap.size + 1 + 1, 0, none⟩ = some (.int .i64 0) := (blk_cell d2 0).trans rfl; have d2_1 : (w4.alloc (.cells #[.int .i64 s.f0, .int .i64 s.f1, .int .i64 s.f2, .int .i64 s.f3] 29)).cell? ⟨w.heap.size + 1 + 1, 1, none⟩ = some (.int .i64 0) := (blk_cell d2 1).trans rfl; have d2_2 : (w4.alloc (.cells #[.int .i64 s.f0, .int .i64 s.f1, .int .i64 s.f2, .int .i64 s.f3] 29)).cell? ⟨w.heap.size + 1 + 1, 2, none⟩ = some (.int .i64 0) := (blk_cell d2 2).trans rfl; have d2_3 : (w4.alloc (.cells #[.int .i64 s.f0, .int .i64 s.f1, .int .i64 s.f2, .int .i64 s.f3] 29)).cell? ⟨w.heap.size + 1 + 1, 3, none⟩ = some (.int .i64 0) := (blk_cell d2 3).trans rfl; have d2_f := fun j => blk_frozen d2 j; have BB1 := Aside0.mk b1; have BB2 := Aside0.mk b2; have BB := Aside0.mk (HBF.out.trans (hb.mono HBF.out.size)); clear b0 b1 b2 d0 d1 d2 hb)
 have HF := finW_below (B1 := w.heap.size + 1) (B2 := w.heap.size + 1 + 1) (below_alloc BB.out (.cells #[.int .i64 s.f0, .int .i64 s.f1, .int .i64 s.f2, .int .i64 s.f3] 29)) (by omega) (by omega) (.slice A0 n0 c0) (.slice A n1 c) (.int .i64 0) (.int .i64 0) (.int .i64 0) (.int .i64 0)
 refine bodyPost_ret (results_cct rfl _ _ (w.heap.size + 1) (w.heap.size + 1 + 1) 25 29 #[.slice A0 n0 c0, .slice A n1 c] Z29 (0, 0) (0, 0) _ _ rfl (finW_b1 (blk_alloc BB1.out _) (by omega) _ _ _ _ _ _) Try.underlying25 rfl (by kernel_rfl) rfl (finW_b2 (blk_alloc BB2.out _) (by omega) _ _ _ _ _ _) Try.underlying29 rfl (by kernel_rfl)) rfl ?_
 exact ⟨_, _, rfl, Kd.V_mono (Kd.V_below HS0.out HF) (fun k hk => Or.inl (Or.inl hk)), Kd.V_mono (Kd.V_below HS1.out HF) (fun k hk => Or.inl (Or.inr hk)), HF⟩
end Go.Proofs.Ytgiofigjnchfeaa.Q

namespace Go.Proofs.Ytgiofigjnchfeaa.Q
open Go.RowKit Go.Proofs.YtgiofigjnchfeaaW.PrintWords Go.Proofs.YtgiofigjnchfeaaW.PrintLast Go.Proofs.YtgiofigjnchfeaaW.PrintMore
set_option linter.unusedVariables false
set_option linter.unusedSimpArgs false

theorem finW_R {W : World} {base : Nat} {ok : Nat → Prop} {v : Value} {xs : List S29} {B1 B2 : Nat} (h : Kd.R k29 29 W base ok v xs) (hok : ∀ k, ok k → k ≠ B1 ∧ k ≠ B2) (u0 u1 v0 v1 v2 v3 : Value) : Kd.R k29 29 (finW W B1 B2 u0 u1 v0 v1 v2 v3) base ok v xs :=
 Kd.R_far (Kd.R_far (Kd.R_far (Kd.R_far (Kd.R_far (Kd.R_far h (p := ⟨B1, 0, none⟩) (fun k hk => (hok k hk).1) _) (p := ⟨B1, 1, none⟩) (fun k hk => (hok k hk).1) _) (p := ⟨B2, 0, none⟩) (fun k hk => (hok k hk).2) _) (p := ⟨B2, 1, none⟩) (fun k hk => (hok k hk).2) _) (p := ⟨B2, 2, none⟩) (fun k hk => (hok k hk).2) _) (p := ⟨B2, 3, none⟩) (fun k hk => (hok k hk).2) _

theorem cell_set1 {W : World} {B g i j : Nat} {v u : Value} (h : W.cell? ⟨g, j, none⟩ = some v) (hne : B ≠ g) : (W.setCell ⟨B, i, none⟩ u).cell? ⟨g, j, none⟩ = some v :=
 (World.cell?_setCell_other _ _ _ _ (fun e => hne (congrArg Addr.block e))).trans h
theorem cell_set2 {W : World} {B g j : Nat} {v u u' : Value} (h : W.cell? ⟨g, j, none⟩ = some v) (hne : B ≠ g) : ((W.setCell ⟨B, 0, none⟩ u).setCell ⟨B, 1, none⟩ u').cell? ⟨g, j, none⟩ = some v := cell_set1 (cell_set1 h hne) hne
theorem cell_set4 {W : World} {B g j : Nat} {v u0 u1 u2 u3 : Value} (h : W.cell? ⟨g, j, none⟩ = some v) (hne : B ≠ g) : ((((W.setCell ⟨B, 0, none⟩ u0).setCell ⟨B, 1, none⟩ u1).setCell ⟨B, 2, none⟩ u2).setCell ⟨B, 3, none⟩ u3).cell? ⟨g, j, none⟩ = some v := cell_set1 (cell_set1 (cell_set1 (cell_set1 h hne) hne) hne) hne

theorem eK36b : ∀ args w, (callFunc 36 args).run Try.prog w = .ok (.enter 36 args) w := eK36

set_option maxHeartbeats 8000000 in
set_option maxRecDepth 100000 in
theorem Lease1.calls (x s : S29) (b : Nat) (w : World) (hb : w.heap[b]? = some (.cells (c4 s).toArray 29 (0, 0))) :
  Calls Try.prog 36 #[.agg #[.int .i64 x.f0, .int .i64 x.f1, .int .i64 x.f2, .int .i64 x.f3], .pointer (some ⟨b, 0, none⟩)] w fun e w' => e = .returned (.bool (ltB s x)) ∧ Below w.heap.size w w' := by
 have hu29 := Try.underlying29
 have hbb := blk_alloc hb (.cells #[.int .i64 x.f0, .int .i64 x.f1, .int .i64 x.f2, .int .i64 x.f3] 29)
 have g0 : (w.alloc (.cells #[.int .i64 x.f0, .int .i64 x.f1, .int .i64 x.f2, .int .i64 x.f3] 29)).cell? ⟨b, 0, none⟩ = some (.int .i64 s.f0) := (blk_cell hbb 0).trans rfl
 have g1 : (w.alloc (.cells #[.int .i64 x.f0, .int .i64 x.f1, .int .i64 x.f2, .int .i64 x.f3] 29)).cell? ⟨b, 1, none⟩ = some (.int .i64 s.f1) := (blk_cell hbb 1).trans rfl
 have g2 : (w.alloc (.cells #[.int .i64 x.f0, .int .i64 x.f1, .int .i64 x.f2, .int .i64 x.f3] 29)).cell? ⟨b, 2, none⟩ = some (.int .i64 s.f2) := (blk_cell hbb 2).trans rfl
 have g3 : (w.alloc (.cells #[.int .i64 x.f0, .int .i64 x.f1, .int .i64 x.f2, .int .i64 x.f3] 29)).cell? ⟨b, 3, none⟩ = some (.int .i64 s.f3) := (blk_cell hbb 3).trans rfl
 have HL := Aside0.mk (less.calls s.f0 s.f1 s.f2 s.f3 x.f0 x.f1 x.f2 x.f3 (w.alloc (.cells #[.int .i64 x.f0, .int .i64 x.f1, .int .i64 x.f2, .int .i64 x.f3] 29)))
 clear hb hbb
 unfold ltB
 generalize (decide (s.f0 < x.f0) || (s.f0 == x.f0 && decide (s.f1 < x.f1))) = r at HL ⊢
 go_enter Try.func36, Try.ntmps36
 go_wp2_with (go_at_call 37; refine HL.out.mono ?_; rintro e w4 ⟨rfl, hb⟩; have HB := Aside0.mk ((below_alloc (Below.refl w.heap.size w) _).trans (hb.mono (by simp))); clear hb)
 go_ret
 exact ⟨rfl, HB.out⟩

set_option maxHeartbeats 32000000 in
set_option maxRecDepth 100000 in
theorem Lease_go (P0 : Nat → Prop) (A0 : Option Addr) (c0 : Nat) (l0_0 : List Int) (P1 : Nat → Prop) (A : Option Addr) (c : Nat) (l : List S29) (a1 : Int) (w : World) (r1 : List Int) (r2 : List S29) (r3 r4 r5 r6 r7 : Int) (hs0 : Kd.V (Kd.int .i64) 3 w w.heap.size (fun k_ => P0 k_) (.slice A0 l0_0.length c0) l0_0) (hs1 : Kd.V k29 29 w w.heap.size (fun k_ => P1 k_) (.slice A l.length c) l) (hlow : ¬ a1 < 1) (hf : l.find? (ofP a1) = none)
  (hL : l.length ≤ 4398046510000) (hM : l0_0.length ≤ 17592186044416) (hin : ∀ s ∈ l, 0 ≤ s.f0 ∧ s.f0 < (l0_0.length : Int))
  (hres : (if bestTo l0_0 (cntsL l0_0 l) l0_0.length < 0 then some (l0_0, l, (0 : Int), (0 : Int), (0 : Int), (0 : Int), (12 : Int)) else
   some (l0_0, insL ⟨bestTo l0_0 (cntsL l0_0 l) l0_0.length, chL (bestTo l0_0 (cntsL l0_0 l) l0_0.length) l, 1, a1⟩ l, bestTo l0_0 (cntsL l0_0 l) l0_0.length, chL (bestTo l0_0 (cntsL l0_0 l) l0_0.length) l, 1, a1, 0)) = some (r1, r2, r3, r4, r5, r6, r7)) :
  Calls Try.prog 12 #[.agg #[.slice A0 l0_0.length c0, .slice A l.length c], .int .i64 a1] w fun e w' => ∃ v0_ v1_ : Value, e = .returned (.tuple #[.agg #[v0_, v1_], .agg #[.int .i64 r3, .int .i64 r4, .int .i64 r5, .int .i64 r6], .int .i64 r7]) ∧ Kd.V (Kd.int .i64) 3 w' w.heap.size (fun k_ => ((P0 k_ ∨ P1 k_) ∨ w.heap.size ≤ k_)) v0_ r1 ∧ Kd.V k29 29 w' w.heap.size (fun k_ => ((P0 k_ ∨ P1 k_) ∨ w.heap.size ≤ k_)) v1_ r2 ∧ Below w.heap.size w w' := by
 have hu25 := Try.underlying25
 have hu29 := Try.underlying29
 have HS0 := Aside0.mk hs0
 have HS1 := Aside0.mk hs1
 have HL := Aside0.mk hL
 have HM := Aside0.mk hM
 have HIN := Aside0.mk hin
 have HRES := Aside0.mk hres
 have HC1 := Aside0.mk (Kd.V_reads' hs1).2.2
 have HC0 := Aside0.mk (Kd.V_reads' hs0).2.2
 have HOF : Aside0 (∀ W, Below w.heap.size w W → Calls Try.prog 14 #[.agg #[.slice A0 l0_0.length c0, .slice A l.length c], .int .i64 a1] W fun e w' => e = .returned (.tuple #[.agg #[.int .i64 0, .int .i64 0, .int .i64 0, .int .i64 0], .bool false]) ∧ Below W.heap.size W w') := ⟨fun W hW => pool_Of.calls A0 c0 l0_0 A c l a1 0 0 0 0 false W (Kd.C_below (Kd.V_reads' hs0).2.2 hW) (Kd.V_reads' hs0).2.1 (Kd.C_below (Kd.V_reads' hs1).2.2 hW) (Kd.V_reads' hs1).2.1 (by unfold pool_Of.f; rw [hf])⟩
 have HB0 : Aside0 ((((w.alloc (.cells #[.slice A0 l0_0.length c0, .slice A l.length c] 25)).alloc (.cells #[.slice none 0 0, .slice none 0 0] 25)).alloc (.cells Z29 29)).heap[w.heap.size]? = some (.cells #[.slice A0 l0_0.length c0, .slice A l.length c] 25 (0, 0))) := ⟨blk_alloc (blk_alloc (blk_new _ _) _) _⟩
 have HB1 : Aside0 ((((w.alloc (.cells #[.slice A0 l0_0.length c0, .slice A l.length c] 25)).alloc (.cells #[.slice none 0 0, .slice none 0 0] 25)).alloc (.cells Z29 29)).heap[w.heap.size + 1]? = some (.cells #[.slice none 0 0, .slice none 0 0] 25 (0, 0))) := ⟨blk_alloc (by simpa using blk_new (w.alloc (.cells #[.slice A0 l0_0.length c0, .slice A l.length c] 25)) (.cells #[.slice none 0 0, .slice none 0 0] 25)) _⟩
 have HB2 : Aside0 ((((w.alloc (.cells #[.slice A0 l0_0.length c0, .slice A l.length c] 25)).alloc (.cells #[.slice none 0 0, .slice none 0 0] 25)).alloc (.cells Z29 29)).heap[w.heap.size + 1 + 1]? = some (.cells Z29 29 (0, 0))) := ⟨by simpa using blk_new ((w.alloc (.cells #[.slice A0 l0_0.length c0, .slice A l.length c] 25)).alloc (.cells #[.slice none 0 0, .slice none 0 0] 25)) (.cells Z29 29)⟩
 have HBF : Aside0 (Below w.heap.size w (((w.alloc (.cells #[.slice A0 l0_0.length c0, .slice A l.length c] 25)).alloc (.cells #[.slice none 0 0, .slice none 0 0] 25)).alloc (.cells Z29 29))) := ⟨below_alloc (below_alloc (below_alloc (Below.refl _ _) _) _) _⟩
 have hMm : l0_0.length ≤ 17592186044416 := hM
 have hLm : l.length ≤ 4398046510000 := hL
 have hmB1 : w.heap.size ≤ w.heap.size + 1 := by omega
 have hmB2 : w.heap.size ≤ w.heap.size + 1 + 1 := by omega
 clear hs0 hs1 hf hin hres hL hM
 go_enter Try.func12, Try.ntmps12
 go_wp2_with (first
  | (go_at_call 14; refine (HOF.out _ HBF.out).mono ?_; rintro e w4 ⟨rfl, hb⟩; have n0 := Aside0.mk (blk_alloc (blk_below HB0.out hb) (.cells #[.int .i64 0, .int .i64 0, .int .i64 0, .int .i64 0] 29)); have n1 := Aside0.mk (blk_alloc (blk_below HB1.out hb) (.cells #[.int .i64 0, .int .i64 0, .int .i64 0, .int .i64 0] 29)); have n2 := Aside0.mk (blk_alloc (blk_below HB2.out hb) (.cells #[.int .i64 0, .int .i64 0, .int .i64 0, .int .i64 0] 29)); have nB := Aside0.mk (below_alloc (HBF.out.trans (hb.mono HBF.out.size)) (.cells #[.int .i64 0, .int .i64 0, .int .i64 0, .int .i64 0] 29)); clear HB0 HB1 HB2 HBF hb; have HB0 := n0; have HB1 := n1; have HB2 := n2; have HB := nB; clear n0 n1 n2 nB; have hp0 : (w4.alloc (.cells #[.int .i64 0, .int .i64 0, .int .i64 0, .int .i64 0] 29)).cell? ⟨w.heap.size, 0, none⟩ = some (.slice A0 l0_0.length c0) := (blk_cell HB0.out 0).trans rfl)
  | ((with_reducible refine gate_dst (N := 41) rfl ?_); refine Kd.R_make (Kd.int .i64) _ 3 rfl (N := 41) rfl 22 _ _ rfl (l0_0.length : Int) rfl rfl Try.underlying22 (.int .i64 0) 8 info3 rfl (by decide) (by omega) 0 (ok := fun _ => True) (okp := fun _ => True) rfl (fun _ hk => hk) trivial (by omega) (by omega) (Below.refl _ _) (Nat.le_refl _) ?_; intro v5 w5 ho hb hg_ hnew_; rw [Int.toNat_natCast] at ho; obtain ⟨Am, cm, rfl⟩ := Kd.R_slice ho; rw [List.length_replicate] at *; have HRm := Aside0.mk (Kd.R_lower ho HB.out.size); have n0 := Aside0.mk (blk_below HB0.out hb); have n1 := Aside0.mk (blk_below HB1.out hb); have n2 := Aside0.mk (blk_below HB2.out hb); have nB := Aside0.mk (HB.out.trans (hb.mono HB.out.size)); clear HB0 HB1 HB2 HB hb ho hg_ hnew_ hp0; have HB0 := n0; have HB1 := n1; have HB2 := n2; have HB := nB; clear n0 n1 n2 nB; have hp1 : w5.cell? ⟨w.heap.size, 1, none⟩ = some (.slice A l.length c) := (blk_cell HB0.out 1).trans rfl))
 go_loopg [45] (l.length + 1) (fun gg v45 wr => ∃ (i : Nat) (m : List Int), v45 = .int .i64 i ∧ i ≤ l.length ∧ l.length - i < gg ∧ Aside0 (m = (l.take i).foldl bump (List.replicate l0_0.length 0)) ∧ Aside0 (Kd.R (Kd.int .i64) 3 wr w.heap.size (fun _ => True) (.slice Am l0_0.length cm) m) ∧ Aside0 (wr.heap[w.heap.size]? = some (.cells #[.slice A0 l0_0.length c0, .slice A l.length c] 25 (0, 0))) ∧ Aside0 (wr.heap[w.heap.size + 1]? = some (.cells #[.slice none 0 0, .slice none 0 0] 25 (0, 0))) ∧ Aside0 (wr.heap[w.heap.size + 1 + 1]? = some (.cells Z29 29 (0, 0))) ∧ Aside0 (Below w.heap.size w wr))
 case atStart => exact ⟨0, List.replicate l0_0.length 0, rfl, Nat.zero_le _, by omega, ⟨rfl⟩, HRm, HB0, HB1, HB2, HB⟩
 case round =>
  obtain ⟨i, m, rfl, hi, hig, HMe, HRr, HB0r, HB1r, HB2r, HBr⟩ := hrel
  clear HRm HB0 HB1 HB2 HB hp1
  have hbd : ∀ j : Int, 0 ≤ rd m j ∧ rd m j ≤ (l.length : Int) := by
   intro j
   have := foldl_bump_bound (l.take i) (List.replicate l0_0.length 0) 0 (fun k => by rw [rd_replicate]; omega) j
   rw [← HMe.out, List.length_take] at this
   omega
  have hml : m.length = l0_0.length := by rw [HMe.out, foldl_bump_length, List.length_replicate]
  have HBD := Aside0.mk hbd
  have HML := Aside0.mk hml
  clear hbd hml
  by_cases ci : i < l.length
  ·
   have cz : (i : Int) < (l.length : Int) := by omega
   have cz0 : (0 : Int) ≤ (i : Int) := by omega
   obtain ⟨ad, e1, hx0, hx1, hx2, hx3⟩ := at_T29 (Kd.C_below HC1.out HBr.out) (i : Int) cz0 cz
   cases e1
   rw [show rd_T29 l (i : Int) = l[i] by simp [rd_T29, ci], Int.toNat_natCast] at hx0 hx1 hx2 hx3
   have hxin := HIN.out l[i] (List.getElem_mem ci)
   have hnext : (l.take (i + 1)).foldl bump (List.replicate l0_0.length 0) = bump m l[i] := by
    rw [List.take_succ_eq_append_getElem ci, List.foldl_append, ← HMe.out]
    rfl
   generalize l[i] = x at hx0 hx1 hx2 hx3 hxin hnext
   have HNX := Aside0.mk hnext
   obtain ⟨go, cg, ego, gbgo, glgo, HGgo⟩ := Kd.R_form HRr.out (by rw [HML.out]; omega)
   simp only [Value.slice.injEq] at ego
   obtain ⟨rfl, -, rfl⟩ := ego
   have HGB := Aside0.mk gbgo
   have hp25 := hxin.1
   have hq25 := hxin.2
   obtain ⟨hm0, hf0⟩ := Kd.R_celln 0 (Kd.R_alloc HRr.out (.cells #[.int .i64 x.f0, .int .i64 x.f1, .int .i64 x.f2, .int .i64 x.f3] 29)) x.f0 hxin.1 hxin.2
   have hb1 := (HBD.out x.f0).1
   have hb2 := (HBD.out x.f0).2
   have HPUT := Aside0.mk (Kd.R_putg (Kd.R_alloc HRr.out (.cells #[.int .i64 x.f0, .int .i64 x.f1, .int .i64 x.f2, .int .i64 x.f3] 29)) x.f0 (rd m x.f0 + 1))
   have hrd : rdOf 0 m x.f0 = rd m x.f0 := rfl
   rw [hrd] at hm0
   have HBU : Aside0 (m.set x.f0.toNat (rd m x.f0 + 1) = bump m x) := ⟨rfl⟩
   rw [HBU.out] at HPUT
   generalize hy : rd m x.f0 = y at hm0 hb1 hb2 HPUT
   clear HBU hy hrd hxin hnext gbgo glgo HGgo
   go_wp2
   go_roundg (l.length - i)
   case measure => omega
   case rel => exact ⟨i + 1, bump m x, by go_num, by omega, by omega, ⟨HNX.out.symm⟩, ⟨HPUT.out.1⟩, ⟨blk_grown (blk_alloc HB0r.out _) HPUT.out.2 (Kd.R_ne HRr.out HB0r.out (by decide))⟩, ⟨blk_grown (blk_alloc HB1r.out _) HPUT.out.2 (Kd.R_ne HRr.out HB1r.out (by decide))⟩, ⟨blk_grown (blk_alloc HB2r.out _) HPUT.out.2 (Kd.R_ne HRr.out HB2r.out (by decide))⟩, ⟨below_set (below_alloc HBr.out _) HGB.out⟩⟩
  ·
   obtain rfl : i = l.length := by omega
   have cz : ¬ (l.length : Int) < (l.length : Int) := by omega
   rw [List.take_length] at HMe
   have HMC : Aside0 (m = cntsL l0_0 l) := ⟨HMe.out⟩
   clear HMe
   generalize wr = wA at *
   go_wp2
   go_loopg [12, 59] (l0_0.length + 1) (fun gg v12 v59 wr => ∃ (i : Nat), v59 = .int .i64 i ∧ v12 = .int .i64 (bestTo l0_0 m i) ∧ i ≤ l0_0.length ∧ l0_0.length - i < gg ∧ Aside0 (Drawn0 wA wr))
   case atStart => exact ⟨0, rfl, rfl, Nat.zero_le _, by omega, ⟨Drawn0.refl _⟩⟩
   case round =>
    obtain ⟨i, rfl, rfl, hi2, hig2, HD⟩ := hrel
    have HR2 : Aside0 (Kd.R (Kd.int .i64) 3 wr w.heap.size (fun _ => True) (.slice Am l0_0.length cm) m) := ⟨by obtain ⟨nd, rfl⟩ := HD.out; exact Kd.R_drewN HRr.out nd⟩
    have HBB2 : Aside0 (Below w.heap.size w wr) := ⟨by obtain ⟨nd, rfl⟩ := HD.out; exact pw_below_drewN HBr.out nd⟩
    have HB02 : Aside0 (wr.heap[w.heap.size]? = some (.cells #[.slice A0 l0_0.length c0, .slice A l.length c] 25 (0, 0))) := ⟨by obtain ⟨nd, rfl⟩ := HD.out; exact blk_drewN HB0r.out nd⟩
    have HB12 : Aside0 (wr.heap[w.heap.size + 1]? = some (.cells #[.slice none 0 0, .slice none 0 0] 25 (0, 0))) := ⟨by obtain ⟨nd, rfl⟩ := HD.out; exact blk_drewN HB1r.out nd⟩
    have HB22 : Aside0 (wr.heap[w.heap.size + 1 + 1]? = some (.cells Z29 29 (0, 0))) := ⟨by obtain ⟨nd, rfl⟩ := HD.out; exact blk_drewN HB2r.out nd⟩
    have hbr := bestTo_range l0_0 m i
    have HST : Aside0 (bestTo l0_0 m (i + 1) = bestStep l0_0 m (bestTo l0_0 m i) i) := ⟨rfl⟩
    generalize hbest : bestTo l0_0 m i = b at hbr HST
    have HBEST := Aside0.mk hbest
    clear hbest
    by_cases ci : i < l0_0.length
    ·
     have cz2 : (i : Int) < (l0_0.length : Int) := by omega
     have cz0 : (0 : Int) ≤ (i : Int) := by omega
     obtain ⟨go, cg, ego, gbgo, glgo, HGgo⟩ := Kd.R_form HR2.out (by rw [HML.out]; omega)
     simp only [Value.slice.injEq] at ego
     obtain ⟨rfl, -, rfl⟩ := ego
     obtain ⟨hm0, hf0⟩ := Kd.R_celln 0 HR2.out (i : Int) cz0 cz2
     rw [show rdOf 0 m (i : Int) = rd m (i : Int) from rfl, Int.toNat_natCast] at hm0
     obtain ⟨ad0, e1, hx0⟩ := Kd.at_int (Kd.C_below HC0.out HBB2.out) (i : Int) cz0 cz2
     cases e1
     rw [Int.toNat_natCast] at hx0
     have hp0 : wr.cell? ⟨w.heap.size, 0, none⟩ = some (.slice (some ad0) l0_0.length c0) := (blk_cell HB02.out 0).trans rfl
     have hs : bestStep l0_0 m b i = if rd m (i : Int) < rd l0_0 (i : Int) then (if b < 0 then (i : Int) else if rd m (i : Int) < rd m b then (i : Int) else b) else b := rfl
     rw [hs] at HST
     clear hs hf0
     by_cases h1 : rd m (i : Int) < rd l0_0 (i : Int)
     ·
      rw [if_pos h1] at HST
      have h1b := decide_eq_true h1
      by_cases h2 : b < 0
      ·
       rw [if_pos h2] at HST
       have h2b := decide_eq_true h2
       generalize rd m (i : Int) = x at hm0 h1 h1b
       generalize rd l0_0 (i : Int) = y at hx0 h1 h1b
       go_wp2
       go_quiet (fail)
       go_wp2
       go_roundg (l0_0.length - i)
       case measure => omega
       case rel => exact ⟨i + 1, by go_num, by rw [HST.out], by omega, by omega, ⟨HD.out.step _⟩⟩
      ·
       rw [if_neg h2] at HST
       have h2b := decide_eq_false h2
       have hb0 : (0 : Int) ≤ b := by omega
       have hb1 : b < (l0_0.length : Int) := by omega
       obtain ⟨hm1, hf1⟩ := Kd.R_celln 0 HR2.out b hb0 hb1
       rw [show rdOf 0 m b = rd m b from rfl] at hm1
       clear hf1
       by_cases h3 : rd m (i : Int) < rd m b
       ·
        rw [if_pos h3] at HST
        have h3b := decide_eq_true h3
        generalize rd m (i : Int) = x at hm0 h1 h1b h3 h3b
        generalize rd l0_0 (i : Int) = y at hx0 h1 h1b
        generalize rd m b = z at hm1 h3 h3b
        go_wp2
        go_quiet (fail)
        go_wp2
        go_roundg (l0_0.length - i)
        case measure => omega
        case rel => exact ⟨i + 1, by go_num, by rw [HST.out], by omega, by omega, ⟨HD.out.step _⟩⟩
       ·
        rw [if_neg h3] at HST
        have h3b := decide_eq_false h3
        generalize rd m (i : Int) = x at hm0 h1 h1b h3 h3b
        generalize rd l0_0 (i : Int) = y at hx0 h1 h1b
        generalize rd m b = z at hm1 h3 h3b
        go_wp2
        go_quiet (fail)
        go_wp2
        go_roundg (l0_0.length - i)
        case measure => omega
        case rel => exact ⟨i + 1, by go_num, by rw [HST.out], by omega, by omega, ⟨HD.out.step _⟩⟩
     ·
      rw [if_neg h1] at HST
      have h1b := decide_eq_false h1
      generalize rd m (i : Int) = x at hm0 h1 h1b
      generalize rd l0_0 (i : Int) = y at hx0 h1 h1b
      go_wp2
      go_quiet (fail)
      go_wp2
      go_roundg (l0_0.length - i)
      case measure => omega
      case rel => exact ⟨i + 1, by go_num, by rw [HST.out], by omega, by omega, ⟨HD.out.step _⟩⟩
    ·
     obtain rfl : i = l0_0.length := by omega
     have cz2 : ¬ (l0_0.length : Int) < (l0_0.length : Int) := by omega
     have hres := HRES.out
     rw [← HMC.out, HBEST.out] at hres
     by_cases hb : b < 0
     ·
      rw [if_pos hb] at hres
      simp only [Option.some.injEq, Prod.mk.injEq] at hres
      obtain ⟨rfl, rfl, rfl, rfl, rfl, rfl, rfl⟩ := hres
      have hbb := decide_eq_true hb
      have hp0 : wr.cell? ⟨w.heap.size, 0, none⟩ = some (.slice A0 l0_0.length c0) := (blk_cell HB02.out 0).trans rfl
      have hp1 : wr.cell? ⟨w.heap.size, 1, none⟩ = some (.slice A l.length c) := (blk_cell HB02.out 1).trans rfl
      have hd0 : wr.cell? ⟨w.heap.size + 1, 0, none⟩ = some (.slice none 0 0) := (blk_cell HB12.out 0).trans rfl
      have hd1 : wr.cell? ⟨w.heap.size + 1, 1, none⟩ = some (.slice none 0 0) := (blk_cell HB12.out 1).trans rfl
      have hdf := fun j => blk_frozen HB12.out j
      have he0 : wr.cell? ⟨w.heap.size + 1 + 1, 0, none⟩ = some (.int .i64 0) := (blk_cell HB22.out 0).trans rfl
      have he1 : wr.cell? ⟨w.heap.size + 1 + 1, 1, none⟩ = some (.int .i64 0) := (blk_cell HB22.out 1).trans rfl
      have he2 : wr.cell? ⟨w.heap.size + 1 + 1, 2, none⟩ = some (.int .i64 0) := (blk_cell HB22.out 2).trans rfl
      have he3 : wr.cell? ⟨w.heap.size + 1 + 1, 3, none⟩ = some (.int .i64 0) := (blk_cell HB22.out 3).trans rfl
      have hef := fun j => blk_frozen HB22.out j
      go_wp2
      have HF := finW_below (B1 := w.heap.size + 1) (B2 := w.heap.size + 1 + 1) HBB2.out (by omega) (by omega) (.slice A0 l0_0.length c0) (.slice A l.length c) (.int .i64 0) (.int .i64 0) (.int .i64 0) (.int .i64 0)
      refine bodyPost_ret (results_cct rfl _ _ (w.heap.size + 1) (w.heap.size + 1 + 1) 25 29 #[.slice A0 l0_0.length c0, .slice A l.length c] Z29 (0, 0) (0, 0) _ _ rfl (finW_b1 HB12.out (by omega) _ _ _ _ _ _) Try.underlying25 rfl (by kernel_rfl) rfl (finW_b2 HB22.out (by omega) _ _ _ _ _ _) Try.underlying29 rfl (by kernel_rfl)) rfl ?_
      exact ⟨_, _, rfl, Kd.V_mono (Kd.V_below HS0.out HF) (fun k hk => Or.inl (Or.inl hk)), Kd.V_mono (Kd.V_below HS1.out HF) (fun k hk => Or.inl (Or.inr hk)), HF⟩
     ·
      rw [if_neg hb] at hres
      simp only [Option.some.injEq, Prod.mk.injEq] at hres
      obtain ⟨rfl, rfl, rfl, rfl, rfl, rfl, rfl⟩ := hres
      have hbb := decide_eq_false hb
      have hp1 : wr.cell? ⟨w.heap.size, 1, none⟩ = some (.slice A l.length c) := (blk_cell HB02.out 1).trans rfl
      go_wp2
      clear hp1 HB0r HB1r HB2r HRr HBr HD HR2 HST HMC HBD HML
      generalize wr = wB at *
      go_loopg [14, 96] (l.length + 1) (fun gg v14 v96 wr => ∃ (i : Nat), v96 = .int .i64 i ∧ v14 = .int .i64 ((l.take i).foldl (chStep b) 1) ∧ i ≤ l.length ∧ l.length - i < gg ∧ Aside0 (wr.heap[w.heap.size]? = some (.cells #[.slice A0 l0_0.length c0, .slice A l.length c] 25 (0, 0))) ∧ Aside0 (wr.heap[w.heap.size + 1]? = some (.cells #[.slice none 0 0, .slice none 0 0] 25 (0, 0))) ∧ Aside0 (wr.heap[w.heap.size + 1 + 1]? = some (.cells Z29 29 (0, 0))) ∧ Aside0 (Below w.heap.size w wr))
      case atStart => exact ⟨0, rfl, rfl, Nat.zero_le _, by omega, HB02, HB12, HB22, HBB2⟩
      case round =>
       obtain ⟨i, rfl, rfl, hi3, hig3, HB0r, HB1r, HB2r, HBr⟩ := hrel
       clear HB02 HB12 HB22 HBB2
       have hcr := foldl_chStep_range b (l.take i) 1
       rw [List.length_take] at hcr
       by_cases ci : i < l.length
       ·
        have cz3 : (i : Int) < (l.length : Int) := by omega
        have cz0 : (0 : Int) ≤ (i : Int) := by omega
        obtain ⟨ad, e1, hx0, hx1, hx2, hx3⟩ := at_T29 (Kd.C_below HC1.out HBr.out) (i : Int) cz0 cz3
        cases e1
        rw [show rd_T29 l (i : Int) = l[i] by simp [rd_T29, ci], Int.toNat_natCast] at hx0 hx1 hx2 hx3
        have hnext : (l.take (i + 1)).foldl (chStep b) 1 = chStep b ((l.take i).foldl (chStep b) 1) l[i] := by
         rw [List.take_succ_eq_append_getElem ci, List.foldl_append]
         rfl
        generalize l[i] = x at hx0 hx1 hx2 hx3 hnext
        generalize (l.take i).foldl (chStep b) 1 = ch at hcr hnext ⊢
        have hc1 : 1 ≤ ch := hcr.1
        have hc2 : ch ≤ 4398046510001 := by omega
        clear hcr
        have HN3 : Aside0 ((l.take (i + 1)).foldl (chStep b) 1 = if x.f0 = b then (if x.f1 = ch then ch + 1 else ch) else ch) := ⟨hnext⟩
        clear hnext
        cases q0 : (x.f0 == b) with
        | false =>
         have HN4 : Aside0 ((l.take (i + 1)).foldl (chStep b) 1 = ch) := ⟨by rw [HN3.out, if_neg (by simpa using q0)]⟩
         clear HN3
         go_wp2
         go_roundg (l.length - i)
         case measure => omega
         case rel => exact ⟨i + 1, by go_num, by rw [HN4.out], by omega, by omega, ⟨blk_alloc HB0r.out _⟩, ⟨blk_alloc HB1r.out _⟩, ⟨blk_alloc HB2r.out _⟩, ⟨below_alloc HBr.out _⟩⟩
        | true =>
         cases q1 : (x.f1 == ch) with
         | false =>
          have HN4 : Aside0 ((l.take (i + 1)).foldl (chStep b) 1 = ch) := ⟨by rw [HN3.out, if_pos (by simpa using q0), if_neg (by simpa using q1)]⟩
          clear HN3
          go_wp2
          go_roundg (l.length - i)
          case measure => omega
          case rel => exact ⟨i + 1, by go_num, by rw [HN4.out], by omega, by omega, ⟨blk_alloc HB0r.out _⟩, ⟨blk_alloc HB1r.out _⟩, ⟨blk_alloc HB2r.out _⟩, ⟨below_alloc HBr.out _⟩⟩
         | true =>
          have HN4 : Aside0 ((l.take (i + 1)).foldl (chStep b) 1 = ch + 1) := ⟨by rw [HN3.out, if_pos (by simpa using q0), if_pos (by simpa using q1)]⟩
          clear HN3
          go_wp2
          go_roundg (l.length - i)
          case measure => omega
          case rel => exact ⟨i + 1, by go_num, by rw [HN4.out], by omega, by omega, ⟨blk_alloc HB0r.out _⟩, ⟨blk_alloc HB1r.out _⟩, ⟨blk_alloc HB2r.out _⟩, ⟨below_alloc HBr.out _⟩⟩
       ·
        obtain rfl : i = l.length := by omega
        have cz3 : ¬ (l.length : Int) < (l.length : Int) := by omega
        rw [List.take_length] at hcr
        rw [List.take_length]
        have hch : l.foldl (chStep b) 1 = chL b l := rfl
        rw [hch] at hcr ⊢
        clear hch
        generalize hchL : chL b l = ch at hcr ⊢
        have HCH := Aside0.mk hchL
        clear hchL
        generalize wr = wB at *
        have HCL : Aside0 (∀ (W : World), Below w.heap.size w W → Calls Try.prog 39 #[.slice A l.length c] W fun e w' => ∃ v : Value, e = .returned v ∧ Kd.R k29 29 w' W.heap.size (fun _ => True) v l ∧ Below W.heap.size W w') := ⟨fun W hW => slices_Clone_Slot.calls A c l W (Kd.C_below HC1.out hW) (by have := HL.out; omega)⟩
        have HFD := Aside0.mk (pool_find.calls A0 l0_0.length c0 A c l 36 #[.pointer (some ⟨wB.heap.size, 0, none⟩)] (ltB ⟨b, ch, 1, a1⟩) (wB.alloc (.cells #[.int .i64 b, .int .i64 ch, .int .i64 1, .int .i64 a1] 29)) (Kd.C_alloc (Kd.C_below HC1.out HBr.out) _) eK36
         (fun X x hX => Lease1.calls x ⟨b, ch, 1, a1⟩ wB.heap.size X ((hX _ (by simp)).trans (blk_new _ _))))
        have HBS : Aside0 ((wB.alloc (.cells #[.int .i64 b, .int .i64 ch, .int .i64 1, .int .i64 a1] 29)).heap[wB.heap.size]? = some (.cells #[.int .i64 b, .int .i64 ch, .int .i64 1, .int .i64 a1] 29 (0, 0))) := ⟨blk_new _ _⟩
        have hins : insAt ⟨b, ch, 1, a1⟩ l = if idxP (ltB ⟨b, ch, 1, a1⟩) l < 0 then l.length else (idxP (ltB ⟨b, ch, 1, a1⟩) l).toNat := rfl
        have n0 := Aside0.mk (blk_alloc HB0r.out (.cells #[.int .i64 b, .int .i64 ch, .int .i64 1, .int .i64 a1] 29))
        have n1 := Aside0.mk (blk_alloc HB1r.out (.cells #[.int .i64 b, .int .i64 ch, .int .i64 1, .int .i64 a1] 29))
        have n2 := Aside0.mk (blk_alloc HB2r.out (.cells #[.int .i64 b, .int .i64 ch, .int .i64 1, .int .i64 a1] 29))
        have nB := Aside0.mk (below_alloc HBr.out (.cells #[.int .i64 b, .int .i64 ch, .int .i64 1, .int .i64 a1] 29))
        have HSZ : Aside0 (w.heap.size + 1 + 1 < wB.heap.size) := ⟨blk_lt HB2r.out⟩
        clear HB0r HB1r HB2r HBr
        have HB0r := n0
        have HB1r := n1
        have HB2r := n2
        have HBr := nB
        clear n0 n1 n2 nB
        have hp0 : (wB.alloc (.cells #[.int .i64 b, .int .i64 ch, .int .i64 1, .int .i64 a1] 29)).cell? ⟨w.heap.size, 0, none⟩ = some (.slice A0 l0_0.length c0) := (blk_cell HB0r.out 0).trans rfl
        have hp1 : (wB.alloc (.cells #[.int .i64 b, .int .i64 ch, .int .i64 1, .int .i64 a1] 29)).cell? ⟨w.heap.size, 1, none⟩ = some (.slice A l.length c) := (blk_cell HB0r.out 1).trans rfl
        rcases idxP_cases (ltB ⟨b, ch, 1, a1⟩) l with ⟨h1, -, -⟩ | ⟨n, hn, h1, -, -, -⟩
        ·
         rw [h1] at hins HFD
         rw [if_pos (by decide)] at hins
         obtain ⟨Y, hY⟩ : ∃ Y, l.take l.length ++ [(⟨b, ch, 1, a1⟩ : S29)] ++ l.drop l.length = Y := ⟨_, rfl⟩
         have HYI : Aside0 (insL ⟨b, ch, 1, a1⟩ l = Y) := ⟨by unfold insL; rw [hins]; exact hY⟩
         have HY := Aside0.mk hY
         clear hins h1 hY
         go_wp2_with (go_at_call 35; refine HFD.out.mono ?_; rintro e w6 ⟨rfl, hb⟩; have n0 := Aside0.mk (blk_below HB0r.out hb); have n1 := Aside0.mk (blk_below HB1r.out hb); have n2 := Aside0.mk (blk_below HB2r.out hb); have nS := Aside0.mk (blk_below HBS.out hb); have nB := Aside0.mk (HBr.out.trans (hb.mono HBr.out.size)); clear HB0r HB1r HB2r HBr HBS hb hp0 hp1 HFD; have HB06 := n0; have HB16 := n1; have HB26 := n2; have HBS6 := nS; have HB6 := nB; clear n0 n1 n2 nS nB; have hp1 : w6.cell? ⟨w.heap.size, 1, none⟩ = some (.slice A l.length c) := (blk_cell HB06.out 1).trans rfl; have s0 : w6.cell? ⟨wB.heap.size, 0, none⟩ = some (.int .i64 b) := (blk_cell HBS6.out 0).trans rfl; have s1 : w6.cell? ⟨wB.heap.size, 1, none⟩ = some (.int .i64 ch) := (blk_cell HBS6.out 1).trans rfl; have s2 : w6.cell? ⟨wB.heap.size, 2, none⟩ = some (.int .i64 1) := (blk_cell HBS6.out 2).trans rfl; have s3 : w6.cell? ⟨wB.heap.size, 3, none⟩ = some (.int .i64 a1) := (blk_cell HBS6.out 3).trans rfl; have sl := blk_lt HBS6.out; have hp1a := cell_alloc hp1 (blk_lt HB06.out) (.cells #[.int .i64 b, .int .i64 ch, .int .i64 1, .int .i64 a1] 29))
         refine start_ (n := 9) (S := (fun w' => w'.cell? ⟨wB.heap.size, 0, none⟩ = some (.int .i64 b) ∧ w'.cell? ⟨wB.heap.size, 1, none⟩ = some (.int .i64 ch) ∧ w'.cell? ⟨wB.heap.size, 2, none⟩ = some (.int .i64 1) ∧ w'.cell? ⟨wB.heap.size, 3, none⟩ = some (.int .i64 a1) ∧ w'.cell? ⟨w.heap.size, 1, none⟩ = some (.slice A l.length c))) (ds := [8]) #[false, false, false, false, false, false, false, false, false] (by kernel_rfl) rfl rfl ⟨s0, s1, s2, s3, hp1⟩ (fun hHeld => ?_)
         have slp := blk_lt HB06.out
         refine take_ (i := 0) (N := some 128) (v := ?_) (a' := ?_) #[true, false, false, false, false, false, false, false, false] rfl rfl (by kernel_rfl) (fun _ _ _ h => h) (Or.inl ⟨by rfl, ?_⟩) hHeld ?_ ?_
         rotate_left
         ·
          rintro w' ⟨g0, g1, g2, g3, g4⟩
          go_simp
          with_reducible rfl
         rotate_left
         ·
          simp only [Act.put, List.setIfInBounds_toArray, List.set_cons_zero, List.set_cons_succ, i64_w, i32_w]
          rfl
         refine take_ (i := 1) (N := some 129) (v := ?_) (a' := ?_) #[true, true, false, false, false, false, false, false, false] rfl rfl (by kernel_rfl) (fun _ _ _ h => h) (Or.inl ⟨by rfl, ?_⟩) hHeld ?_ ?_
         rotate_left
         ·
          rintro w' ⟨g0, g1, g2, g3, g4⟩
          go_simp
          with_reducible rfl
         rotate_left
         ·
          simp only [Act.put, List.setIfInBounds_toArray, List.set_cons_zero, List.set_cons_succ, i64_w, i32_w]
          rfl
         refine take_ (i := 3) (N := some 131) (v := ?_) (a' := ?_) #[true, true, false, true, false, false, false, false, false] rfl rfl (by kernel_rfl) (fun _ _ _ h => h) (Or.inl ⟨by rfl, ?_⟩) hHeld ?_ ?_
         rotate_left
         ·
          rintro w' ⟨g0, g1, g2, g3, g4⟩
          go_simp
          with_reducible rfl
         rotate_left
         ·
          simp only [Act.put, List.setIfInBounds_toArray, List.set_cons_zero, List.set_cons_succ, i64_w, i32_w]
          rfl
         refine take_ (i := 4) (N := some 132) (v := ?_) (a' := ?_) #[true, true, false, true, true, false, false, false, false] rfl rfl (by kernel_rfl) (fun _ _ _ h => h) (Or.inl ⟨by rfl, ?_⟩) hHeld ?_ ?_
         rotate_left
         ·
          rintro w' ⟨g0, g1, g2, g3, g4⟩
          go_simp
          with_reducible rfl
         rotate_left
         ·
          simp only [Act.put, List.setIfInBounds_toArray, List.set_cons_zero, List.set_cons_succ, i64_w, i32_w]
          rfl
         refine two_ (i := 2) (j := 5) (Ni := some 130) (Nj := some 133) #[true, true, true, true, true, false, false, false, false] #[true, true, false, true, true, true, false, false, false] rfl rfl rfl rfl (by kernel_rfl) (by decide) (by decide) (fun K hK => ?way1a) (fun K hK => ?way2a)
         case' way1a =>
          refine goes_ Try.func39 (by kernel_rfl) rfl #[.slice A l.length c] rfl rfl rfl (by (try simp only [List.map_toArray, List.map_cons, List.map_nil]); first | done | rfl) ?_
          refine (HCL.out _ ?hW).mono ?_; (case hW => first | exact HB6.out | exact below_drew1 HB6.out | exact below_drew1 (below_alloc HB6.out _) | exact below_alloc HB6.out _); rintro e w7 ⟨v7, rfl, hR7, hb7⟩; refine ⟨_, rfl, ?_⟩; have HR7 : Aside0 (Kd.R k29 29 w7 w6.heap.size (fun _ => True) v7 l) := ⟨Kd.R_lower hR7 (by first | exact Nat.le_refl _ | simp)⟩; have HS7 : Aside0 (w6.heap.size ≤ w7.heap.size) := ⟨Nat.le_trans (by first | exact Nat.le_refl _ | simp) hb7.size⟩; have HQA := Aside0.mk (Kd.R_lt hR7); (try have HQB : Aside0 (∀ k, v7.ownBlock = some k → w6.heap.size + 1 ≤ k) := ⟨fun k hk => (by have h9 := Kd.R_base hR7 k hk; simpa using h9)⟩); have HQ6 : Aside0 (∀ k, v7.ownBlock = some k → w6.heap.size ≤ k) := ⟨fun k hk => Nat.le_trans (by first | exact Nat.le_refl _ | simp) (Kd.R_base hR7 k hk)⟩; (try have HV7 := Aside0.mk (blk_below (g := w6.heap.size) (o := .cells #[.int .i64 b, .int .i64 ch, .int .i64 1, .int .i64 a1] 29 (0, 0)) (by exact blk_new _ _) hb7)); have HB07 : Aside0 (w7.heap[w.heap.size]? = some (.cells #[.slice A0 l0_0.length c0, .slice A l.length c] 25 (0, 0))) := ⟨blk_below (by first | exact HB06.out | exact blk_alloc HB06.out _) hb7⟩; have HB17 : Aside0 (w7.heap[w.heap.size + 1]? = some (.cells #[.slice none 0 0, .slice none 0 0] 25 (0, 0))) := ⟨blk_below (by first | exact HB16.out | exact blk_alloc HB16.out _) hb7⟩; have HB27 : Aside0 (w7.heap[w.heap.size + 1 + 1]? = some (.cells Z29 29 (0, 0))) := ⟨blk_below (by first | exact HB26.out | exact blk_alloc HB26.out _) hb7⟩; have HBS7 : Aside0 (w7.heap[wB.heap.size]? = some (.cells #[.int .i64 b, .int .i64 ch, .int .i64 1, .int .i64 a1] 29 (0, 0))) := ⟨blk_below (by first | exact HBS6.out | exact blk_alloc HBS6.out _) hb7⟩; have HB7 : Aside0 (Below w.heap.size w w7) := ⟨below_step (by first | exact HB6.out | exact below_drew1 HB6.out | exact below_drew1 (below_alloc HB6.out _) | exact below_alloc HB6.out _) hb7⟩; clear hR7 hb7; have t0 : w7.cell? ⟨wB.heap.size, 0, none⟩ = some (.int .i64 b) := (blk_cell HBS7.out 0).trans rfl; have t1 : w7.cell? ⟨wB.heap.size, 1, none⟩ = some (.int .i64 ch) := (blk_cell HBS7.out 1).trans rfl; have t2 : w7.cell? ⟨wB.heap.size, 2, none⟩ = some (.int .i64 1) := (blk_cell HBS7.out 2).trans rfl; have t3 : w7.cell? ⟨wB.heap.size, 3, none⟩ = some (.int .i64 a1) := (blk_cell HBS7.out 3).trans rfl; have tl := blk_lt HBS7.out; have t4 : w7.cell? ⟨w.heap.size, 1, none⟩ = some (.slice A l.length c) := (blk_cell HB07.out 1).trans rfl; have tlp := blk_lt HB07.out
          refine hK.out _ _ ⟨t0, t1, t2, t3, t4⟩ (fun hHeld => ?_)
          clear hK K
          refine norm_ (a' := ?_) ?_ ?_
          rotate_left
          ·
           show Act.put _ (some 130) _ = _
           simp only [Act.put, List.setIfInBounds_toArray, List.set_cons_zero, List.set_cons_succ, i64_w, i32_w]
           rfl
          refine one_ (i := 5) (N := some 133) #[true, true, true, true, true, true, false, false, false] rfl rfl (by kernel_rfl) (by decide) (fun K hK => ?_)
          refine value_ (w1 := ?_) (v := ?_) (by rfl) rfl ?_ ?_
          rotate_left 2
          ·
           go_simp
           constructor
           ·
            rfl
           ·
            rfl
          refine hK.out _ _ ⟨cell_alloc t0 tl _, cell_alloc t1 tl _, cell_alloc t2 tl _, cell_alloc t3 tl _, cell_alloc t4 tlp _⟩ (fun hHeld => ?_)
          clear hK K
          refine norm_ (a' := ?_) ?_ ?_
          rotate_left
          ·
           show Act.put _ (some 133) _ = _
           simp only [Act.put, List.setIfInBounds_toArray, List.set_cons_zero, List.set_cons_succ, i64_w, i32_w]
           rfl
         case' way2a =>
          refine value_ (w1 := ?_) (v := ?_) (by rfl) rfl ?_ ?_
          rotate_left 2
          ·
           go_simp
           constructor
           ·
            rfl
           ·
            rfl
          refine hK.out _ _ ⟨cell_alloc s0 sl _, cell_alloc s1 sl _, cell_alloc s2 sl _, cell_alloc s3 sl _, cell_alloc hp1 slp _⟩ (fun hHeld => ?_)
          clear hK K
          refine norm_ (a' := ?_) ?_ ?_
          rotate_left
          ·
           show Act.put _ (some 133) _ = _
           simp only [Act.put, List.setIfInBounds_toArray, List.set_cons_zero, List.set_cons_succ, i64_w, i32_w]
           rfl
          refine one_ (i := 2) (N := some 130) #[true, true, true, true, true, true, false, false, false] rfl rfl (by kernel_rfl) (by decide) (fun K hK => ?_)
          refine goes_ Try.func39 (by kernel_rfl) rfl #[.slice A l.length c] rfl rfl rfl (by (try simp only [List.map_toArray, List.map_cons, List.map_nil]); first | done | rfl) ?_
          refine (HCL.out _ ?hW).mono ?_; (case hW => first | exact HB6.out | exact below_drew1 HB6.out | exact below_drew1 (below_alloc HB6.out _) | exact below_alloc HB6.out _); rintro e w7 ⟨v7, rfl, hR7, hb7⟩; refine ⟨_, rfl, ?_⟩; have HR7 : Aside0 (Kd.R k29 29 w7 w6.heap.size (fun _ => True) v7 l) := ⟨Kd.R_lower hR7 (by first | exact Nat.le_refl _ | simp)⟩; have HS7 : Aside0 (w6.heap.size ≤ w7.heap.size) := ⟨Nat.le_trans (by first | exact Nat.le_refl _ | simp) hb7.size⟩; have HQA := Aside0.mk (Kd.R_lt hR7); (try have HQB : Aside0 (∀ k, v7.ownBlock = some k → w6.heap.size + 1 ≤ k) := ⟨fun k hk => (by have h9 := Kd.R_base hR7 k hk; simpa using h9)⟩); have HQ6 : Aside0 (∀ k, v7.ownBlock = some k → w6.heap.size ≤ k) := ⟨fun k hk => Nat.le_trans (by first | exact Nat.le_refl _ | simp) (Kd.R_base hR7 k hk)⟩; (try have HV7 := Aside0.mk (blk_below (g := w6.heap.size) (o := .cells #[.int .i64 b, .int .i64 ch, .int .i64 1, .int .i64 a1] 29 (0, 0)) (by exact blk_new _ _) hb7)); have HB07 : Aside0 (w7.heap[w.heap.size]? = some (.cells #[.slice A0 l0_0.length c0, .slice A l.length c] 25 (0, 0))) := ⟨blk_below (by first | exact HB06.out | exact blk_alloc HB06.out _) hb7⟩; have HB17 : Aside0 (w7.heap[w.heap.size + 1]? = some (.cells #[.slice none 0 0, .slice none 0 0] 25 (0, 0))) := ⟨blk_below (by first | exact HB16.out | exact blk_alloc HB16.out _) hb7⟩; have HB27 : Aside0 (w7.heap[w.heap.size + 1 + 1]? = some (.cells Z29 29 (0, 0))) := ⟨blk_below (by first | exact HB26.out | exact blk_alloc HB26.out _) hb7⟩; have HBS7 : Aside0 (w7.heap[wB.heap.size]? = some (.cells #[.int .i64 b, .int .i64 ch, .int .i64 1, .int .i64 a1] 29 (0, 0))) := ⟨blk_below (by first | exact HBS6.out | exact blk_alloc HBS6.out _) hb7⟩; have HB7 : Aside0 (Below w.heap.size w w7) := ⟨below_step (by first | exact HB6.out | exact below_drew1 HB6.out | exact below_drew1 (below_alloc HB6.out _) | exact below_alloc HB6.out _) hb7⟩; clear hR7 hb7; have t0 : w7.cell? ⟨wB.heap.size, 0, none⟩ = some (.int .i64 b) := (blk_cell HBS7.out 0).trans rfl; have t1 : w7.cell? ⟨wB.heap.size, 1, none⟩ = some (.int .i64 ch) := (blk_cell HBS7.out 1).trans rfl; have t2 : w7.cell? ⟨wB.heap.size, 2, none⟩ = some (.int .i64 1) := (blk_cell HBS7.out 2).trans rfl; have t3 : w7.cell? ⟨wB.heap.size, 3, none⟩ = some (.int .i64 a1) := (blk_cell HBS7.out 3).trans rfl; have tl := blk_lt HBS7.out; have t4 : w7.cell? ⟨w.heap.size, 1, none⟩ = some (.slice A l.length c) := (blk_cell HB07.out 1).trans rfl; have tlp := blk_lt HB07.out
          refine hK.out _ _ ⟨t0, t1, t2, t3, t4⟩ (fun hHeld => ?_)
          clear hK K
          refine norm_ (a' := ?_) ?_ ?_
          rotate_left
          ·
           show Act.put _ (some 130) _ = _
           simp only [Act.put, List.setIfInBounds_toArray, List.set_cons_zero, List.set_cons_succ, i64_w, i32_w]
           rfl
         all_goals
          refine one_ (i := 6) (N := some 134) #[true, true, true, true, true, true, true, false, false] rfl rfl (by kernel_rfl) (by decide) (fun K hK => ?_)
          (first | refine goes_ Try.func38 (by kernel_rfl) rfl #[v7, .int .i64 ((l.length : Nat) : Int), .slice (some ⟨w7.heap.size, 0, none⟩) 1 1] rfl rfl rfl (by (try simp only [List.map_toArray, List.map_cons, List.map_nil]); first | done | rfl) ?_ | refine goes_ Try.func38 (by kernel_rfl) rfl #[v7, .int .i64 ((l.length : Nat) : Int), .slice (some ⟨w6.heap.size, 0, none⟩) 1 1] rfl rfl rfl (by (try simp only [List.map_toArray, List.map_cons, List.map_nil]); first | done | rfl) ?_)
          refine (slices_Insert.calls w6.heap.size _ l.length _ l ⟨b, ch, 1, a1⟩ _ ?h1 ?h2 ?h3 ?h4 ?h5 ?h6).mono ?_; (case h1 => first | exact HR7.out | exact Kd.R_alloc HR7.out _); (case h2 => first | exact Nat.le_refl _ | omega); (case h3 => first | exact blk_new _ _ | exact HV7.out); (case h4 => first | exact fun e => Nat.lt_irrefl _ (HQA.out _ e.symm) | exact fun e => Nat.not_succ_le_self _ (HQB.out _ e.symm)); (case h5 => first | exact HS7.out | exact Nat.le_trans HS7.out (by simp)); (case h6 => exact HL.out); rintro e w8 ⟨v8, rfl, hR8, hg8⟩; refine ⟨_, rfl, ?_⟩; rw [HY.out] at hR8; obtain ⟨A8, c8, rfl⟩ := Kd.R_slice hR8; have HB08 : Aside0 (w8.heap[w.heap.size]? = some (.cells #[.slice A0 l0_0.length c0, .slice A l.length c] 25 (0, 0))) := ⟨blk_grown (by first | exact HB07.out | exact blk_alloc HB07.out _) hg8 (Kd.R_ne HR7.out HB07.out (by decide))⟩; have HB18 : Aside0 (w8.heap[w.heap.size + 1]? = some (.cells #[.slice none 0 0, .slice none 0 0] 25 (0, 0))) := ⟨blk_grown (by first | exact HB17.out | exact blk_alloc HB17.out _) hg8 (Kd.R_ne HR7.out HB17.out (by decide))⟩; have HB28 : Aside0 (w8.heap[w.heap.size + 1 + 1]? = some (.cells Z29 29 (0, 0))) := ⟨blk_grown (by first | exact HB27.out | exact blk_alloc HB27.out _) hg8 (fun e => (by have := HQ6.out _ e.symm; have := HSZ.out; omega))⟩; have HBS8 : Aside0 (w8.heap[wB.heap.size]? = some (.cells #[.int .i64 b, .int .i64 ch, .int .i64 1, .int .i64 a1] 29 (0, 0))) := ⟨blk_grown (by first | exact HBS7.out | exact blk_alloc HBS7.out _) hg8 (fun e => (by have := HQ6.out _ e.symm; omega))⟩; have HB8 : Aside0 (Below w.heap.size w w8) := ⟨(by first | exact HB7.out.grown hg8 HB7.out.size (fun k hk => Nat.le_trans HB6.out.size (HQ6.out k hk)) | exact (below_alloc HB7.out _).grown hg8 (Nat.le_trans HB7.out.size (by simp)) (fun k hk => Nat.le_trans HB6.out.size (HQ6.out k hk)))⟩; have HR8 := Aside0.mk hR8; clear hR8 hg8; have u0 : w8.cell? ⟨wB.heap.size, 0, none⟩ = some (.int .i64 b) := (blk_cell HBS8.out 0).trans rfl; have u1 : w8.cell? ⟨wB.heap.size, 1, none⟩ = some (.int .i64 ch) := (blk_cell HBS8.out 1).trans rfl; have u2 : w8.cell? ⟨wB.heap.size, 2, none⟩ = some (.int .i64 1) := (blk_cell HBS8.out 2).trans rfl; have u3 : w8.cell? ⟨wB.heap.size, 3, none⟩ = some (.int .i64 a1) := (blk_cell HBS8.out 3).trans rfl; have hq1 : w8.cell? ⟨w.heap.size, 1, none⟩ = some (.slice A l.length c) := (blk_cell HB08.out 1).trans rfl; have hqf := fun j => blk_frozen HB08.out j
          refine hK.out _ _ ⟨u0, u1, u2, u3, hq1⟩ (fun hHeld => ?_)
          clear hK K
          refine norm_ (a' := ?_) ?_ ?_
          rotate_left
          ·
           show Act.put _ (some 134) _ = _
           simp only [Act.put, List.setIfInBounds_toArray, List.set_cons_zero, List.set_cons_succ, i64_w, i32_w]
           rfl
          refine take_ (i := 7) (N := some 135) (v := ?_) (a' := ?_) #[true, true, true, true, true, true, true, true, false] rfl rfl (by kernel_rfl) (fun _ _ _ h => h) (Or.inl ⟨by rfl, ?_⟩) hHeld ?_ ?_
          rotate_left
          ·
           rintro w' ⟨g0, g1, g2, g3, g4⟩
           go_simp
           with_reducible rfl
          rotate_left
          ·
           simp only [Act.put, List.setIfInBounds_toArray, List.set_cons_zero, List.set_cons_succ, i64_w, i32_w]
           rfl
          refine last_ (i := 8) (N := none) #[true, true, true, true, true, true, true, true, true] rfl rfl (by kernel_rfl) (by decide) (fun K hK => ?_)
          refine skip_ (w1 := ?_) (by rfl) rfl ?_ ?_
          rotate_left
          ·
           go_simp
           rfl
          refine hK.out _ _ ?_
          clear hK K
          refine done_ (by kernel_rfl) ?_
          (try simp only [Act.put, List.setIfInBounds_toArray, List.set_cons_zero, List.set_cons_succ])
         all_goals
          have hsl6 := sl
          generalize hw9 : w8.setCell ⟨w.heap.size, 1, none⟩ (.slice A8 Y.length c8) = w9
          have HB09 : Aside0 (w9.heap[w.heap.size]? = some (.cells #[.slice A0 l0_0.length c0, .slice A8 Y.length c8] 25 (0, 0))) := ⟨by rw [← hw9]; exact blk_put HB08.out 1 _ rfl⟩
          have HB19 : Aside0 (w9.heap[w.heap.size + 1]? = some (.cells #[.slice none 0 0, .slice none 0 0] 25 (0, 0))) := ⟨by rw [← hw9]; exact blk_far (p := ⟨w.heap.size, 1, none⟩) HB18.out (by show w.heap.size + 1 ≠ w.heap.size; omega) _⟩
          have HB29 : Aside0 (w9.heap[w.heap.size + 1 + 1]? = some (.cells Z29 29 (0, 0))) := ⟨by rw [← hw9]; exact blk_far (p := ⟨w.heap.size, 1, none⟩) HB28.out (by show w.heap.size + 1 + 1 ≠ w.heap.size; omega) _⟩
          have HBS9 : Aside0 (w9.heap[wB.heap.size]? = some (.cells #[.int .i64 b, .int .i64 ch, .int .i64 1, .int .i64 a1] 29 (0, 0))) := ⟨by rw [← hw9]; exact blk_far (p := ⟨w.heap.size, 1, none⟩) HBS8.out (by have := HSZ.out; show wB.heap.size ≠ w.heap.size; omega) _⟩
          have HB9 : Aside0 (Below w.heap.size w w9) := ⟨by rw [← hw9]; exact below_set HB8.out (Nat.le_refl _)⟩
          have HR9 : Aside0 (Kd.R k29 29 w9 w6.heap.size (fun _ => True) (.slice A8 Y.length c8) Y) := ⟨by rw [← hw9]; exact Kd.R_set HR8.out HB08.out (by decide) 1 _⟩
          clear hw9 HR8 HB08 HB18 HB28 HBS8 HB8 u0 u1 u2 u3 hq1 hqf t0 t1 t2 t3 s0 s1 s2 s3 hp1 hp1a HR7 HB07 HB17 HB27 HBS7 HB7 HB06 HB16 HB26 HBS6 HB6
          have n10 : w.heap.size + 1 ≠ w.heap.size := by omega
          have n1S : w.heap.size + 1 ≠ wB.heap.size := by have := HSZ.out; omega
          have n20 : w.heap.size + 1 + 1 ≠ w.heap.size := by omega
          have n2S : w.heap.size + 1 + 1 ≠ wB.heap.size := by have := HSZ.out; omega
          have n21 : w.heap.size + 1 + 1 ≠ w.heap.size + 1 := by omega
          have m10 := n10.symm
          have m1S := n1S.symm
          have m20 := n20.symm
          have m2S := n2S.symm
          have m21 := n21.symm
          have N10 := Aside0.mk n10
          have N1S := Aside0.mk n1S
          have N20 := Aside0.mk n20
          have N2S := Aside0.mk n2S
          have HB0d : Aside0 (w9.drew.heap[w.heap.size]? = some (.cells #[.slice A0 l0_0.length c0, .slice A8 Y.length c8] 25 (0, 0))) := ⟨HB09.out⟩
          have HB1d : Aside0 (w9.drew.heap[w.heap.size + 1]? = some (.cells #[.slice none 0 0, .slice none 0 0] 25 (0, 0))) := ⟨HB19.out⟩
          have HB2d : Aside0 (w9.drew.heap[w.heap.size + 1 + 1]? = some (.cells Z29 29 (0, 0))) := ⟨HB29.out⟩
          have HBSd : Aside0 (w9.drew.heap[wB.heap.size]? = some (.cells #[.int .i64 b, .int .i64 ch, .int .i64 1, .int .i64 a1] 29 (0, 0))) := ⟨HBS9.out⟩
          have HBd : Aside0 (Below w.heap.size w w9.drew) := ⟨below_drew1 HB9.out⟩
          have HRd : Aside0 (Kd.R k29 29 w9.drew w6.heap.size (fun _ => True) (.slice A8 Y.length c8) Y) := ⟨Kd.R_drew HR9.out⟩
          go_wp2
          refine start_ (n := 5) (S := (fun w' => w'.cell? ⟨w.heap.size, 0, none⟩ = some (.slice A0 l0_0.length c0) ∧ w'.cell? ⟨w.heap.size, 1, none⟩ = some (.slice A8 Y.length c8) ∧ w'.cell? ⟨wB.heap.size, 0, none⟩ = some (.int .i64 b) ∧ w'.cell? ⟨wB.heap.size, 1, none⟩ = some (.int .i64 ch) ∧ w'.cell? ⟨wB.heap.size, 2, none⟩ = some (.int .i64 1) ∧ w'.cell? ⟨wB.heap.size, 3, none⟩ = some (.int .i64 a1))) (ds := []) #[false, false, false, false, false] (by kernel_rfl) rfl rfl ⟨(blk_cell HB09.out 0).trans rfl, (blk_cell HB09.out 1).trans rfl, (blk_cell HBS9.out 0).trans rfl, (blk_cell HBS9.out 1).trans rfl, (blk_cell HBS9.out 2).trans rfl, (blk_cell HBS9.out 3).trans rfl⟩ (fun hHeld => ?_)
          clear HB09 HB19 HB29 HBS9 HB9 HR9
          generalize w9.drew = wd at HB0d HB1d HB2d HBSd HBd HRd hHeld ⊢
          refine take_ (i := 0) (N := some 136) (v := ?_) (a' := ?_) #[true, false, false, false, false] rfl rfl (by kernel_rfl) (fun _ _ _ h => h) (Or.inl ⟨by rfl, ?_⟩) hHeld ?_ ?_
          rotate_left
          ·
           rintro w' ⟨s0, s1, s2, s3, s4, s5⟩
           go_simp
           with_reducible rfl
          rotate_left
          ·
           simp only [Act.put, List.setIfInBounds_toArray, List.set_cons_zero, List.set_cons_succ, i64_w, i32_w]
           rfl
          refine take_ (i := 1) (N := some 137) (v := ?_) (a' := ?_) #[true, true, false, false, false] rfl rfl (by kernel_rfl) (fun _ _ _ h => h) (Or.inl ⟨by rfl, ?_⟩) hHeld ?_ ?_
          rotate_left
          ·
           rintro w' ⟨s0, s1, s2, s3, s4, s5⟩
           go_simp
           with_reducible rfl
          rotate_left
          ·
           simp only [Act.put, List.setIfInBounds_toArray, List.set_cons_zero, List.set_cons_succ, i64_w, i32_w]
           rfl
          refine one_ (i := 2) (N := none) #[true, true, true, false, false] rfl rfl (by kernel_rfl) (by decide) (fun K hK => ?_)
          have hd0 : wd.cell? ⟨w.heap.size + 1, 0, none⟩ = some (.slice none 0 0) := (blk_cell HB1d.out 0).trans rfl
          have hd1 : wd.cell? ⟨w.heap.size + 1, 1, none⟩ = some (.slice none 0 0) := (blk_cell HB1d.out 1).trans rfl
          have hdf := fun j => blk_frozen HB1d.out j
          refine skip_ (w1 := ?_) (by rfl) rfl ?_ ?_
          rotate_left
          ·
           go_simp
           rfl
          refine hK.out _ _ ⟨cell_set2 (hHeld.1) N10.out, cell_set2 (hHeld.2.1) N10.out, cell_set2 (hHeld.2.2.1) N1S.out, cell_set2 (hHeld.2.2.2.1) N1S.out, cell_set2 (hHeld.2.2.2.2.1) N1S.out, cell_set2 (hHeld.2.2.2.2.2) N1S.out⟩ (fun hHeld => ?_)
          clear hK K
          refine one_ (i := 3) (N := none) #[true, true, true, true, false] rfl rfl (by kernel_rfl) (by decide) (fun K hK => ?_)
          have he0 : wd.cell? ⟨w.heap.size + 1 + 1, 0, none⟩ = some (.int .i64 0) := (blk_cell HB2d.out 0).trans rfl
          have he1 : wd.cell? ⟨w.heap.size + 1 + 1, 1, none⟩ = some (.int .i64 0) := (blk_cell HB2d.out 1).trans rfl
          have he2 : wd.cell? ⟨w.heap.size + 1 + 1, 2, none⟩ = some (.int .i64 0) := (blk_cell HB2d.out 2).trans rfl
          have he3 : wd.cell? ⟨w.heap.size + 1 + 1, 3, none⟩ = some (.int .i64 0) := (blk_cell HB2d.out 3).trans rfl
          have hef := fun j => blk_frozen HB2d.out j
          refine skip_ (w1 := ?_) (by rfl) rfl ?_ ?_
          rotate_left
          ·
           go_simp
           rfl
          refine hK.out _ _ ⟨cell_set4 (hHeld.1) N20.out, cell_set4 (hHeld.2.1) N20.out, cell_set4 (hHeld.2.2.1) N2S.out, cell_set4 (hHeld.2.2.2.1) N2S.out, cell_set4 (hHeld.2.2.2.2.1) N2S.out, cell_set4 (hHeld.2.2.2.2.2) N2S.out⟩ (fun hHeld => ?_)
          clear hK K
          refine pure_ (i := 4) (N := some 6) (v := ?_) (a' := ?_) #[true, true, true, true, true] rfl rfl (by kernel_rfl) (fun _ _ _ h => h) (Or.inl ⟨by rfl, ?_⟩) ?_ ?_
          rotate_left
          ·
           intro w'
           go_simp
           with_reducible rfl
          rotate_left
          ·
           simp only [Act.put, List.setIfInBounds_toArray, List.set_cons_zero, List.set_cons_succ, i64_w, i32_w]
           rfl
          refine done_ (by kernel_rfl) ?_
          try go_wp2
          have HF := finW_below (B1 := w.heap.size + 1) (B2 := w.heap.size + 1 + 1) HBd.out (by omega) (by omega) (.slice A0 l0_0.length c0) (.slice A8 Y.length c8) (.int .i64 b) (.int .i64 ch) (.int .i64 1) (.int .i64 a1)
          refine bodyPost_ret (results_cct rfl _ _ (w.heap.size + 1) (w.heap.size + 1 + 1) 25 29 #[.slice A0 l0_0.length c0, .slice A8 Y.length c8] #[.int .i64 b, .int .i64 ch, .int .i64 1, .int .i64 a1] (0, 0) (0, 0) _ _ rfl (finW_b1 HB1d.out (by omega) _ _ _ _ _ _) Try.underlying25 rfl (by kernel_rfl) rfl (finW_b2 HB2d.out (by omega) _ _ _ _ _ _) Try.underlying29 rfl (by kernel_rfl)) rfl ?_
          rw [HCH.out, HYI.out]
          have HRF := finW_R (B1 := w.heap.size + 1) (B2 := w.heap.size + 1 + 1) (Kd.R_bound HRd.out) (fun k hk => by have h1 := hk.2.1; have h2 := HSZ.out; constructor <;> omega) (.slice A0 l0_0.length c0) (.slice A8 Y.length c8) (.int .i64 b) (.int .i64 ch) (.int .i64 1) (.int .i64 a1)
          exact ⟨_, _, rfl, Kd.V_mono (Kd.V_below HS0.out HF) (fun k hk => Or.inl (Or.inl hk)), Kd.V_mono (Kd.R_V HRF) (fun k hk => Or.inr (by have h1 := hk.2.1; have h2 := HSZ.out; omega)), HF⟩
        ·
         rw [h1] at hins HFD
         rw [show decide ((0 : Int) ≤ (n : Int)) = true by simp] at HFD
         rw [if_neg (by omega), Int.toNat_natCast] at hins
         obtain ⟨Y, hY⟩ : ∃ Y, l.take n ++ [(⟨b, ch, 1, a1⟩ : S29)] ++ l.drop n = Y := ⟨_, rfl⟩
         have HYI : Aside0 (insL ⟨b, ch, 1, a1⟩ l = Y) := ⟨by unfold insL; rw [hins]; exact hY⟩
         have HY := Aside0.mk hY
         clear hins h1 hY
         go_wp2_with (go_at_call 35; refine HFD.out.mono ?_; rintro e w6 ⟨rfl, hb⟩; have n0 := Aside0.mk (blk_below HB0r.out hb); have n1 := Aside0.mk (blk_below HB1r.out hb); have n2 := Aside0.mk (blk_below HB2r.out hb); have nS := Aside0.mk (blk_below HBS.out hb); have nB := Aside0.mk (HBr.out.trans (hb.mono HBr.out.size)); clear HB0r HB1r HB2r HBr HBS hb hp0 hp1 HFD; have HB06 := n0; have HB16 := n1; have HB26 := n2; have HBS6 := nS; have HB6 := nB; clear n0 n1 n2 nS nB; have hp1 : w6.cell? ⟨w.heap.size, 1, none⟩ = some (.slice A l.length c) := (blk_cell HB06.out 1).trans rfl; have s0 : w6.cell? ⟨wB.heap.size, 0, none⟩ = some (.int .i64 b) := (blk_cell HBS6.out 0).trans rfl; have s1 : w6.cell? ⟨wB.heap.size, 1, none⟩ = some (.int .i64 ch) := (blk_cell HBS6.out 1).trans rfl; have s2 : w6.cell? ⟨wB.heap.size, 2, none⟩ = some (.int .i64 1) := (blk_cell HBS6.out 2).trans rfl; have s3 : w6.cell? ⟨wB.heap.size, 3, none⟩ = some (.int .i64 a1) := (blk_cell HBS6.out 3).trans rfl; have sl := blk_lt HBS6.out; have hp1a := cell_alloc hp1 (blk_lt HB06.out) (.cells #[.int .i64 b, .int .i64 ch, .int .i64 1, .int .i64 a1] 29))
         refine start_ (n := 9) (S := (fun w' => w'.cell? ⟨wB.heap.size, 0, none⟩ = some (.int .i64 b) ∧ w'.cell? ⟨wB.heap.size, 1, none⟩ = some (.int .i64 ch) ∧ w'.cell? ⟨wB.heap.size, 2, none⟩ = some (.int .i64 1) ∧ w'.cell? ⟨wB.heap.size, 3, none⟩ = some (.int .i64 a1) ∧ w'.cell? ⟨w.heap.size, 1, none⟩ = some (.slice A l.length c))) (ds := [8]) #[false, false, false, false, false, false, false, false, false] (by kernel_rfl) rfl rfl ⟨s0, s1, s2, s3, hp1⟩ (fun hHeld => ?_)
         have slp := blk_lt HB06.out
         refine take_ (i := 0) (N := some 128) (v := ?_) (a' := ?_) #[true, false, false, false, false, false, false, false, false] rfl rfl (by kernel_rfl) (fun _ _ _ h => h) (Or.inl ⟨by rfl, ?_⟩) hHeld ?_ ?_
         rotate_left
         ·
          rintro w' ⟨g0, g1, g2, g3, g4⟩
          go_simp
          with_reducible rfl
         rotate_left
         ·
          simp only [Act.put, List.setIfInBounds_toArray, List.set_cons_zero, List.set_cons_succ, i64_w, i32_w]
          rfl
         refine take_ (i := 1) (N := some 129) (v := ?_) (a' := ?_) #[true, true, false, false, false, false, false, false, false] rfl rfl (by kernel_rfl) (fun _ _ _ h => h) (Or.inl ⟨by rfl, ?_⟩) hHeld ?_ ?_
         rotate_left
         ·
          rintro w' ⟨g0, g1, g2, g3, g4⟩
          go_simp
          with_reducible rfl
         rotate_left
         ·
          simp only [Act.put, List.setIfInBounds_toArray, List.set_cons_zero, List.set_cons_succ, i64_w, i32_w]
          rfl
         refine take_ (i := 3) (N := some 131) (v := ?_) (a' := ?_) #[true, true, false, true, false, false, false, false, false] rfl rfl (by kernel_rfl) (fun _ _ _ h => h) (Or.inl ⟨by rfl, ?_⟩) hHeld ?_ ?_
         rotate_left
         ·
          rintro w' ⟨g0, g1, g2, g3, g4⟩
          go_simp
          with_reducible rfl
         rotate_left
         ·
          simp only [Act.put, List.setIfInBounds_toArray, List.set_cons_zero, List.set_cons_succ, i64_w, i32_w]
          rfl
         refine take_ (i := 4) (N := some 132) (v := ?_) (a' := ?_) #[true, true, false, true, true, false, false, false, false] rfl rfl (by kernel_rfl) (fun _ _ _ h => h) (Or.inl ⟨by rfl, ?_⟩) hHeld ?_ ?_
         rotate_left
         ·
          rintro w' ⟨g0, g1, g2, g3, g4⟩
          go_simp
          with_reducible rfl
         rotate_left
         ·
          simp only [Act.put, List.setIfInBounds_toArray, List.set_cons_zero, List.set_cons_succ, i64_w, i32_w]
          rfl
         refine two_ (i := 2) (j := 5) (Ni := some 130) (Nj := some 133) #[true, true, true, true, true, false, false, false, false] #[true, true, false, true, true, true, false, false, false] rfl rfl rfl rfl (by kernel_rfl) (by decide) (by decide) (fun K hK => ?way1b) (fun K hK => ?way2b)
         case' way1b =>
          refine goes_ Try.func39 (by kernel_rfl) rfl #[.slice A l.length c] rfl rfl rfl (by (try simp only [List.map_toArray, List.map_cons, List.map_nil]); first | done | rfl) ?_
          refine (HCL.out _ ?hW).mono ?_; (case hW => first | exact HB6.out | exact below_drew1 HB6.out | exact below_drew1 (below_alloc HB6.out _) | exact below_alloc HB6.out _); rintro e w7 ⟨v7, rfl, hR7, hb7⟩; refine ⟨_, rfl, ?_⟩; have HR7 : Aside0 (Kd.R k29 29 w7 w6.heap.size (fun _ => True) v7 l) := ⟨Kd.R_lower hR7 (by first | exact Nat.le_refl _ | simp)⟩; have HS7 : Aside0 (w6.heap.size ≤ w7.heap.size) := ⟨Nat.le_trans (by first | exact Nat.le_refl _ | simp) hb7.size⟩; have HQA := Aside0.mk (Kd.R_lt hR7); (try have HQB : Aside0 (∀ k, v7.ownBlock = some k → w6.heap.size + 1 ≤ k) := ⟨fun k hk => (by have h9 := Kd.R_base hR7 k hk; simpa using h9)⟩); have HQ6 : Aside0 (∀ k, v7.ownBlock = some k → w6.heap.size ≤ k) := ⟨fun k hk => Nat.le_trans (by first | exact Nat.le_refl _ | simp) (Kd.R_base hR7 k hk)⟩; (try have HV7 := Aside0.mk (blk_below (g := w6.heap.size) (o := .cells #[.int .i64 b, .int .i64 ch, .int .i64 1, .int .i64 a1] 29 (0, 0)) (by exact blk_new _ _) hb7)); have HB07 : Aside0 (w7.heap[w.heap.size]? = some (.cells #[.slice A0 l0_0.length c0, .slice A l.length c] 25 (0, 0))) := ⟨blk_below (by first | exact HB06.out | exact blk_alloc HB06.out _) hb7⟩; have HB17 : Aside0 (w7.heap[w.heap.size + 1]? = some (.cells #[.slice none 0 0, .slice none 0 0] 25 (0, 0))) := ⟨blk_below (by first | exact HB16.out | exact blk_alloc HB16.out _) hb7⟩; have HB27 : Aside0 (w7.heap[w.heap.size + 1 + 1]? = some (.cells Z29 29 (0, 0))) := ⟨blk_below (by first | exact HB26.out | exact blk_alloc HB26.out _) hb7⟩; have HBS7 : Aside0 (w7.heap[wB.heap.size]? = some (.cells #[.int .i64 b, .int .i64 ch, .int .i64 1, .int .i64 a1] 29 (0, 0))) := ⟨blk_below (by first | exact HBS6.out | exact blk_alloc HBS6.out _) hb7⟩; have HB7 : Aside0 (Below w.heap.size w w7) := ⟨below_step (by first | exact HB6.out | exact below_drew1 HB6.out | exact below_drew1 (below_alloc HB6.out _) | exact below_alloc HB6.out _) hb7⟩; clear hR7 hb7; have t0 : w7.cell? ⟨wB.heap.size, 0, none⟩ = some (.int .i64 b) := (blk_cell HBS7.out 0).trans rfl; have t1 : w7.cell? ⟨wB.heap.size, 1, none⟩ = some (.int .i64 ch) := (blk_cell HBS7.out 1).trans rfl; have t2 : w7.cell? ⟨wB.heap.size, 2, none⟩ = some (.int .i64 1) := (blk_cell HBS7.out 2).trans rfl; have t3 : w7.cell? ⟨wB.heap.size, 3, none⟩ = some (.int .i64 a1) := (blk_cell HBS7.out 3).trans rfl; have tl := blk_lt HBS7.out; have t4 : w7.cell? ⟨w.heap.size, 1, none⟩ = some (.slice A l.length c) := (blk_cell HB07.out 1).trans rfl; have tlp := blk_lt HB07.out
          refine hK.out _ _ ⟨t0, t1, t2, t3, t4⟩ (fun hHeld => ?_)
          clear hK K
          refine norm_ (a' := ?_) ?_ ?_
          rotate_left
          ·
           show Act.put _ (some 130) _ = _
           simp only [Act.put, List.setIfInBounds_toArray, List.set_cons_zero, List.set_cons_succ, i64_w, i32_w]
           rfl
          refine one_ (i := 5) (N := some 133) #[true, true, true, true, true, true, false, false, false] rfl rfl (by kernel_rfl) (by decide) (fun K hK => ?_)
          refine value_ (w1 := ?_) (v := ?_) (by rfl) rfl ?_ ?_
          rotate_left 2
          ·
           go_simp
           constructor
           ·
            rfl
           ·
            rfl
          refine hK.out _ _ ⟨cell_alloc t0 tl _, cell_alloc t1 tl _, cell_alloc t2 tl _, cell_alloc t3 tl _, cell_alloc t4 tlp _⟩ (fun hHeld => ?_)
          clear hK K
          refine norm_ (a' := ?_) ?_ ?_
          rotate_left
          ·
           show Act.put _ (some 133) _ = _
           simp only [Act.put, List.setIfInBounds_toArray, List.set_cons_zero, List.set_cons_succ, i64_w, i32_w]
           rfl
         case' way2b =>
          refine value_ (w1 := ?_) (v := ?_) (by rfl) rfl ?_ ?_
          rotate_left 2
          ·
           go_simp
           constructor
           ·
            rfl
           ·
            rfl
          refine hK.out _ _ ⟨cell_alloc s0 sl _, cell_alloc s1 sl _, cell_alloc s2 sl _, cell_alloc s3 sl _, cell_alloc hp1 slp _⟩ (fun hHeld => ?_)
          clear hK K
          refine norm_ (a' := ?_) ?_ ?_
          rotate_left
          ·
           show Act.put _ (some 133) _ = _
           simp only [Act.put, List.setIfInBounds_toArray, List.set_cons_zero, List.set_cons_succ, i64_w, i32_w]
           rfl
          refine one_ (i := 2) (N := some 130) #[true, true, true, true, true, true, false, false, false] rfl rfl (by kernel_rfl) (by decide) (fun K hK => ?_)
          refine goes_ Try.func39 (by kernel_rfl) rfl #[.slice A l.length c] rfl rfl rfl (by (try simp only [List.map_toArray, List.map_cons, List.map_nil]); first | done | rfl) ?_
          refine (HCL.out _ ?hW).mono ?_; (case hW => first | exact HB6.out | exact below_drew1 HB6.out | exact below_drew1 (below_alloc HB6.out _) | exact below_alloc HB6.out _); rintro e w7 ⟨v7, rfl, hR7, hb7⟩; refine ⟨_, rfl, ?_⟩; have HR7 : Aside0 (Kd.R k29 29 w7 w6.heap.size (fun _ => True) v7 l) := ⟨Kd.R_lower hR7 (by first | exact Nat.le_refl _ | simp)⟩; have HS7 : Aside0 (w6.heap.size ≤ w7.heap.size) := ⟨Nat.le_trans (by first | exact Nat.le_refl _ | simp) hb7.size⟩; have HQA := Aside0.mk (Kd.R_lt hR7); (try have HQB : Aside0 (∀ k, v7.ownBlock = some k → w6.heap.size + 1 ≤ k) := ⟨fun k hk => (by have h9 := Kd.R_base hR7 k hk; simpa using h9)⟩); have HQ6 : Aside0 (∀ k, v7.ownBlock = some k → w6.heap.size ≤ k) := ⟨fun k hk => Nat.le_trans (by first | exact Nat.le_refl _ | simp) (Kd.R_base hR7 k hk)⟩; (try have HV7 := Aside0.mk (blk_below (g := w6.heap.size) (o := .cells #[.int .i64 b, .int .i64 ch, .int .i64 1, .int .i64 a1] 29 (0, 0)) (by exact blk_new _ _) hb7)); have HB07 : Aside0 (w7.heap[w.heap.size]? = some (.cells #[.slice A0 l0_0.length c0, .slice A l.length c] 25 (0, 0))) := ⟨blk_below (by first | exact HB06.out | exact blk_alloc HB06.out _) hb7⟩; have HB17 : Aside0 (w7.heap[w.heap.size + 1]? = some (.cells #[.slice none 0 0, .slice none 0 0] 25 (0, 0))) := ⟨blk_below (by first | exact HB16.out | exact blk_alloc HB16.out _) hb7⟩; have HB27 : Aside0 (w7.heap[w.heap.size + 1 + 1]? = some (.cells Z29 29 (0, 0))) := ⟨blk_below (by first | exact HB26.out | exact blk_alloc HB26.out _) hb7⟩; have HBS7 : Aside0 (w7.heap[wB.heap.size]? = some (.cells #[.int .i64 b, .int .i64 ch, .int .i64 1, .int .i64 a1] 29 (0, 0))) := ⟨blk_below (by first | exact HBS6.out | exact blk_alloc HBS6.out _) hb7⟩; have HB7 : Aside0 (Below w.heap.size w w7) := ⟨below_step (by first | exact HB6.out | exact below_drew1 HB6.out | exact below_drew1 (below_alloc HB6.out _) | exact below_alloc HB6.out _) hb7⟩; clear hR7 hb7; have t0 : w7.cell? ⟨wB.heap.size, 0, none⟩ = some (.int .i64 b) := (blk_cell HBS7.out 0).trans rfl; have t1 : w7.cell? ⟨wB.heap.size, 1, none⟩ = some (.int .i64 ch) := (blk_cell HBS7.out 1).trans rfl; have t2 : w7.cell? ⟨wB.heap.size, 2, none⟩ = some (.int .i64 1) := (blk_cell HBS7.out 2).trans rfl; have t3 : w7.cell? ⟨wB.heap.size, 3, none⟩ = some (.int .i64 a1) := (blk_cell HBS7.out 3).trans rfl; have tl := blk_lt HBS7.out; have t4 : w7.cell? ⟨w.heap.size, 1, none⟩ = some (.slice A l.length c) := (blk_cell HB07.out 1).trans rfl; have tlp := blk_lt HB07.out
          refine hK.out _ _ ⟨t0, t1, t2, t3, t4⟩ (fun hHeld => ?_)
          clear hK K
          refine norm_ (a' := ?_) ?_ ?_
          rotate_left
          ·
           show Act.put _ (some 130) _ = _
           simp only [Act.put, List.setIfInBounds_toArray, List.set_cons_zero, List.set_cons_succ, i64_w, i32_w]
           rfl
         all_goals
          refine one_ (i := 6) (N := some 134) #[true, true, true, true, true, true, true, false, false] rfl rfl (by kernel_rfl) (by decide) (fun K hK => ?_)
          (first | refine goes_ Try.func38 (by kernel_rfl) rfl #[v7, .int .i64 ((n : Nat) : Int), .slice (some ⟨w7.heap.size, 0, none⟩) 1 1] rfl rfl rfl (by (try simp only [List.map_toArray, List.map_cons, List.map_nil]); first | done | rfl) ?_ | refine goes_ Try.func38 (by kernel_rfl) rfl #[v7, .int .i64 ((n : Nat) : Int), .slice (some ⟨w6.heap.size, 0, none⟩) 1 1] rfl rfl rfl (by (try simp only [List.map_toArray, List.map_cons, List.map_nil]); first | done | rfl) ?_)
          refine (slices_Insert.calls w6.heap.size _ n _ l ⟨b, ch, 1, a1⟩ _ ?h1 ?h2 ?h3 ?h4 ?h5 ?h6).mono ?_; (case h1 => first | exact HR7.out | exact Kd.R_alloc HR7.out _); (case h2 => first | exact Nat.le_refl _ | omega); (case h3 => first | exact blk_new _ _ | exact HV7.out); (case h4 => first | exact fun e => Nat.lt_irrefl _ (HQA.out _ e.symm) | exact fun e => Nat.not_succ_le_self _ (HQB.out _ e.symm)); (case h5 => first | exact HS7.out | exact Nat.le_trans HS7.out (by simp)); (case h6 => exact HL.out); rintro e w8 ⟨v8, rfl, hR8, hg8⟩; refine ⟨_, rfl, ?_⟩; rw [HY.out] at hR8; obtain ⟨A8, c8, rfl⟩ := Kd.R_slice hR8; have HB08 : Aside0 (w8.heap[w.heap.size]? = some (.cells #[.slice A0 l0_0.length c0, .slice A l.length c] 25 (0, 0))) := ⟨blk_grown (by first | exact HB07.out | exact blk_alloc HB07.out _) hg8 (Kd.R_ne HR7.out HB07.out (by decide))⟩; have HB18 : Aside0 (w8.heap[w.heap.size + 1]? = some (.cells #[.slice none 0 0, .slice none 0 0] 25 (0, 0))) := ⟨blk_grown (by first | exact HB17.out | exact blk_alloc HB17.out _) hg8 (Kd.R_ne HR7.out HB17.out (by decide))⟩; have HB28 : Aside0 (w8.heap[w.heap.size + 1 + 1]? = some (.cells Z29 29 (0, 0))) := ⟨blk_grown (by first | exact HB27.out | exact blk_alloc HB27.out _) hg8 (fun e => (by have := HQ6.out _ e.symm; have := HSZ.out; omega))⟩; have HBS8 : Aside0 (w8.heap[wB.heap.size]? = some (.cells #[.int .i64 b, .int .i64 ch, .int .i64 1, .int .i64 a1] 29 (0, 0))) := ⟨blk_grown (by first | exact HBS7.out | exact blk_alloc HBS7.out _) hg8 (fun e => (by have := HQ6.out _ e.symm; omega))⟩; have HB8 : Aside0 (Below w.heap.size w w8) := ⟨(by first | exact HB7.out.grown hg8 HB7.out.size (fun k hk => Nat.le_trans HB6.out.size (HQ6.out k hk)) | exact (below_alloc HB7.out _).grown hg8 (Nat.le_trans HB7.out.size (by simp)) (fun k hk => Nat.le_trans HB6.out.size (HQ6.out k hk)))⟩; have HR8 := Aside0.mk hR8; clear hR8 hg8; have u0 : w8.cell? ⟨wB.heap.size, 0, none⟩ = some (.int .i64 b) := (blk_cell HBS8.out 0).trans rfl; have u1 : w8.cell? ⟨wB.heap.size, 1, none⟩ = some (.int .i64 ch) := (blk_cell HBS8.out 1).trans rfl; have u2 : w8.cell? ⟨wB.heap.size, 2, none⟩ = some (.int .i64 1) := (blk_cell HBS8.out 2).trans rfl; have u3 : w8.cell? ⟨wB.heap.size, 3, none⟩ = some (.int .i64 a1) := (blk_cell HBS8.out 3).trans rfl; have hq1 : w8.cell? ⟨w.heap.size, 1, none⟩ = some (.slice A l.length c) := (blk_cell HB08.out 1).trans rfl; have hqf := fun j => blk_frozen HB08.out j
          refine hK.out _ _ ⟨u0, u1, u2, u3, hq1⟩ (fun hHeld => ?_)
          clear hK K
          refine norm_ (a' := ?_) ?_ ?_
          rotate_left
          ·
           show Act.put _ (some 134) _ = _
           simp only [Act.put, List.setIfInBounds_toArray, List.set_cons_zero, List.set_cons_succ, i64_w, i32_w]
           rfl
          refine take_ (i := 7) (N := some 135) (v := ?_) (a' := ?_) #[true, true, true, true, true, true, true, true, false] rfl rfl (by kernel_rfl) (fun _ _ _ h => h) (Or.inl ⟨by rfl, ?_⟩) hHeld ?_ ?_
          rotate_left
          ·
           rintro w' ⟨g0, g1, g2, g3, g4⟩
           go_simp
           with_reducible rfl
          rotate_left
          ·
           simp only [Act.put, List.setIfInBounds_toArray, List.set_cons_zero, List.set_cons_succ, i64_w, i32_w]
           rfl
          refine last_ (i := 8) (N := none) #[true, true, true, true, true, true, true, true, true] rfl rfl (by kernel_rfl) (by decide) (fun K hK => ?_)
          refine skip_ (w1 := ?_) (by rfl) rfl ?_ ?_
          rotate_left
          ·
           go_simp
           rfl
          refine hK.out _ _ ?_
          clear hK K
          refine done_ (by kernel_rfl) ?_
          (try simp only [Act.put, List.setIfInBounds_toArray, List.set_cons_zero, List.set_cons_succ])
         all_goals
          have hsl6 := sl
          generalize hw9 : w8.setCell ⟨w.heap.size, 1, none⟩ (.slice A8 Y.length c8) = w9
          have HB09 : Aside0 (w9.heap[w.heap.size]? = some (.cells #[.slice A0 l0_0.length c0, .slice A8 Y.length c8] 25 (0, 0))) := ⟨by rw [← hw9]; exact blk_put HB08.out 1 _ rfl⟩
          have HB19 : Aside0 (w9.heap[w.heap.size + 1]? = some (.cells #[.slice none 0 0, .slice none 0 0] 25 (0, 0))) := ⟨by rw [← hw9]; exact blk_far (p := ⟨w.heap.size, 1, none⟩) HB18.out (by show w.heap.size + 1 ≠ w.heap.size; omega) _⟩
          have HB29 : Aside0 (w9.heap[w.heap.size + 1 + 1]? = some (.cells Z29 29 (0, 0))) := ⟨by rw [← hw9]; exact blk_far (p := ⟨w.heap.size, 1, none⟩) HB28.out (by show w.heap.size + 1 + 1 ≠ w.heap.size; omega) _⟩
          have HBS9 : Aside0 (w9.heap[wB.heap.size]? = some (.cells #[.int .i64 b, .int .i64 ch, .int .i64 1, .int .i64 a1] 29 (0, 0))) := ⟨by rw [← hw9]; exact blk_far (p := ⟨w.heap.size, 1, none⟩) HBS8.out (by have := HSZ.out; show wB.heap.size ≠ w.heap.size; omega) _⟩
          have HB9 : Aside0 (Below w.heap.size w w9) := ⟨by rw [← hw9]; exact below_set HB8.out (Nat.le_refl _)⟩
          have HR9 : Aside0 (Kd.R k29 29 w9 w6.heap.size (fun _ => True) (.slice A8 Y.length c8) Y) := ⟨by rw [← hw9]; exact Kd.R_set HR8.out HB08.out (by decide) 1 _⟩
          clear hw9 HR8 HB08 HB18 HB28 HBS8 HB8 u0 u1 u2 u3 hq1 hqf t0 t1 t2 t3 s0 s1 s2 s3 hp1 hp1a HR7 HB07 HB17 HB27 HBS7 HB7 HB06 HB16 HB26 HBS6 HB6
          have n10 : w.heap.size + 1 ≠ w.heap.size := by omega
          have n1S : w.heap.size + 1 ≠ wB.heap.size := by have := HSZ.out; omega
          have n20 : w.heap.size + 1 + 1 ≠ w.heap.size := by omega
          have n2S : w.heap.size + 1 + 1 ≠ wB.heap.size := by have := HSZ.out; omega
          have n21 : w.heap.size + 1 + 1 ≠ w.heap.size + 1 := by omega
          have m10 := n10.symm
          have m1S := n1S.symm
          have m20 := n20.symm
          have m2S := n2S.symm
          have m21 := n21.symm
          have N10 := Aside0.mk n10
          have N1S := Aside0.mk n1S
          have N20 := Aside0.mk n20
          have N2S := Aside0.mk n2S
          have HB0d : Aside0 (w9.drew.heap[w.heap.size]? = some (.cells #[.slice A0 l0_0.length c0, .slice A8 Y.length c8] 25 (0, 0))) := ⟨HB09.out⟩
          have HB1d : Aside0 (w9.drew.heap[w.heap.size + 1]? = some (.cells #[.slice none 0 0, .slice none 0 0] 25 (0, 0))) := ⟨HB19.out⟩
          have HB2d : Aside0 (w9.drew.heap[w.heap.size + 1 + 1]? = some (.cells Z29 29 (0, 0))) := ⟨HB29.out⟩
          have HBSd : Aside0 (w9.drew.heap[wB.heap.size]? = some (.cells #[.int .i64 b, .int .i64 ch, .int .i64 1, .int .i64 a1] 29 (0, 0))) := ⟨HBS9.out⟩
          have HBd : Aside0 (Below w.heap.size w w9.drew) := ⟨below_drew1 HB9.out⟩
          have HRd : Aside0 (Kd.R k29 29 w9.drew w6.heap.size (fun _ => True) (.slice A8 Y.length c8) Y) := ⟨Kd.R_drew HR9.out⟩
          go_wp2
          refine start_ (n := 5) (S := (fun w' => w'.cell? ⟨w.heap.size, 0, none⟩ = some (.slice A0 l0_0.length c0) ∧ w'.cell? ⟨w.heap.size, 1, none⟩ = some (.slice A8 Y.length c8) ∧ w'.cell? ⟨wB.heap.size, 0, none⟩ = some (.int .i64 b) ∧ w'.cell? ⟨wB.heap.size, 1, none⟩ = some (.int .i64 ch) ∧ w'.cell? ⟨wB.heap.size, 2, none⟩ = some (.int .i64 1) ∧ w'.cell? ⟨wB.heap.size, 3, none⟩ = some (.int .i64 a1))) (ds := []) #[false, false, false, false, false] (by kernel_rfl) rfl rfl ⟨(blk_cell HB09.out 0).trans rfl, (blk_cell HB09.out 1).trans rfl, (blk_cell HBS9.out 0).trans rfl, (blk_cell HBS9.out 1).trans rfl, (blk_cell HBS9.out 2).trans rfl, (blk_cell HBS9.out 3).trans rfl⟩ (fun hHeld => ?_)
          clear HB09 HB19 HB29 HBS9 HB9 HR9
          generalize w9.drew = wd at HB0d HB1d HB2d HBSd HBd HRd hHeld ⊢
          refine take_ (i := 0) (N := some 136) (v := ?_) (a' := ?_) #[true, false, false, false, false] rfl rfl (by kernel_rfl) (fun _ _ _ h => h) (Or.inl ⟨by rfl, ?_⟩) hHeld ?_ ?_
          rotate_left
          ·
           rintro w' ⟨s0, s1, s2, s3, s4, s5⟩
           go_simp
           with_reducible rfl
          rotate_left
          ·
           simp only [Act.put, List.setIfInBounds_toArray, List.set_cons_zero, List.set_cons_succ, i64_w, i32_w]
           rfl
          refine take_ (i := 1) (N := some 137) (v := ?_) (a' := ?_) #[true, true, false, false, false] rfl rfl (by kernel_rfl) (fun _ _ _ h => h) (Or.inl ⟨by rfl, ?_⟩) hHeld ?_ ?_
          rotate_left
          ·
           rintro w' ⟨s0, s1, s2, s3, s4, s5⟩
           go_simp
           with_reducible rfl
          rotate_left
          ·
           simp only [Act.put, List.setIfInBounds_toArray, List.set_cons_zero, List.set_cons_succ, i64_w, i32_w]
           rfl
          refine one_ (i := 2) (N := none) #[true, true, true, false, false] rfl rfl (by kernel_rfl) (by decide) (fun K hK => ?_)
          have hd0 : wd.cell? ⟨w.heap.size + 1, 0, none⟩ = some (.slice none 0 0) := (blk_cell HB1d.out 0).trans rfl
          have hd1 : wd.cell? ⟨w.heap.size + 1, 1, none⟩ = some (.slice none 0 0) := (blk_cell HB1d.out 1).trans rfl
          have hdf := fun j => blk_frozen HB1d.out j
          refine skip_ (w1 := ?_) (by rfl) rfl ?_ ?_
          rotate_left
          ·
           go_simp
           rfl
          refine hK.out _ _ ⟨cell_set2 (hHeld.1) N10.out, cell_set2 (hHeld.2.1) N10.out, cell_set2 (hHeld.2.2.1) N1S.out, cell_set2 (hHeld.2.2.2.1) N1S.out, cell_set2 (hHeld.2.2.2.2.1) N1S.out, cell_set2 (hHeld.2.2.2.2.2) N1S.out⟩ (fun hHeld => ?_)
          clear hK K
          refine one_ (i := 3) (N := none) #[true, true, true, true, false] rfl rfl (by kernel_rfl) (by decide) (fun K hK => ?_)
          have he0 : wd.cell? ⟨w.heap.size + 1 + 1, 0, none⟩ = some (.int .i64 0) := (blk_cell HB2d.out 0).trans rfl
          have he1 : wd.cell? ⟨w.heap.size + 1 + 1, 1, none⟩ = some (.int .i64 0) := (blk_cell HB2d.out 1).trans rfl
          have he2 : wd.cell? ⟨w.heap.size + 1 + 1, 2, none⟩ = some (.int .i64 0) := (blk_cell HB2d.out 2).trans rfl
          have he3 : wd.cell? ⟨w.heap.size + 1 + 1, 3, none⟩ = some (.int .i64 0) := (blk_cell HB2d.out 3).trans rfl
          have hef := fun j => blk_frozen HB2d.out j
          refine skip_ (w1 := ?_) (by rfl) rfl ?_ ?_
          rotate_left
          ·
           go_simp
           rfl
          refine hK.out _ _ ⟨cell_set4 (hHeld.1) N20.out, cell_set4 (hHeld.2.1) N20.out, cell_set4 (hHeld.2.2.1) N2S.out, cell_set4 (hHeld.2.2.2.1) N2S.out, cell_set4 (hHeld.2.2.2.2.1) N2S.out, cell_set4 (hHeld.2.2.2.2.2) N2S.out⟩ (fun hHeld => ?_)
          clear hK K
          refine pure_ (i := 4) (N := some 6) (v := ?_) (a' := ?_) #[true, true, true, true, true] rfl rfl (by kernel_rfl) (fun _ _ _ h => h) (Or.inl ⟨by rfl, ?_⟩) ?_ ?_
          rotate_left
          ·
           intro w'
           go_simp
           with_reducible rfl
          rotate_left
          ·
           simp only [Act.put, List.setIfInBounds_toArray, List.set_cons_zero, List.set_cons_succ, i64_w, i32_w]
           rfl
          refine done_ (by kernel_rfl) ?_
          try go_wp2
          have HF := finW_below (B1 := w.heap.size + 1) (B2 := w.heap.size + 1 + 1) HBd.out (by omega) (by omega) (.slice A0 l0_0.length c0) (.slice A8 Y.length c8) (.int .i64 b) (.int .i64 ch) (.int .i64 1) (.int .i64 a1)
          refine bodyPost_ret (results_cct rfl _ _ (w.heap.size + 1) (w.heap.size + 1 + 1) 25 29 #[.slice A0 l0_0.length c0, .slice A8 Y.length c8] #[.int .i64 b, .int .i64 ch, .int .i64 1, .int .i64 a1] (0, 0) (0, 0) _ _ rfl (finW_b1 HB1d.out (by omega) _ _ _ _ _ _) Try.underlying25 rfl (by kernel_rfl) rfl (finW_b2 HB2d.out (by omega) _ _ _ _ _ _) Try.underlying29 rfl (by kernel_rfl)) rfl ?_
          rw [HCH.out, HYI.out]
          have HRF := finW_R (B1 := w.heap.size + 1) (B2 := w.heap.size + 1 + 1) (Kd.R_bound HRd.out) (fun k hk => by have h1 := hk.2.1; have h2 := HSZ.out; constructor <;> omega) (.slice A0 l0_0.length c0) (.slice A8 Y.length c8) (.int .i64 b) (.int .i64 ch) (.int .i64 1) (.int .i64 a1)
          exact ⟨_, _, rfl, Kd.V_mono (Kd.V_below HS0.out HF) (fun k hk => Or.inl (Or.inl hk)), Kd.V_mono (Kd.R_V HRF) (fun k hk => Or.inr (by have h1 := hk.2.1; have h2 := HSZ.out; omega)), HF⟩
end Go.Proofs.Ytgiofigjnchfeaa.Q

namespace Go.Proofs.Ytgiofigjnchfeaa.Q
open Go.RowKit Go.Proofs.YtgiofigjnchfeaaW.PrintWords Go.Proofs.YtgiofigjnchfeaaW.PrintLast Go.Proofs.YtgiofigjnchfeaaW.PrintMore
set_option linter.unusedVariables false
set_option linter.unusedSimpArgs false

theorem pool_Lease.calls (P0 : Nat → Prop) (A0 : Option Addr) (c0 : Nat) (l0_0 : List Int) (P1 : Nat → Prop) (A : Option Addr) (c : Nat) (l : List S29) (a1 : Int) (r1 : List Int) (r2 : List S29) (r3 r4 r5 r6 r7 : Int) (w : World) (hs0 : Kd.V (Kd.int .i64) 3 w w.heap.size (fun k_ => P0 k_) (.slice A0 l0_0.length c0) l0_0) (hs1 : Kd.V k29 29 w w.heap.size (fun k_ => P1 k_) (.slice A l.length c) l) (h : pool_Lease.f l0_0 l a1 = some (r1, r2, r3, r4, r5, r6, r7)) :
  Calls Try.prog 12 #[.agg #[.slice A0 l0_0.length c0, .slice A l.length c], .int .i64 a1] w fun e w' => ∃ v0_ v1_ : Value, e = .returned (.tuple #[.agg #[v0_, v1_], .agg #[.int .i64 r3, .int .i64 r4, .int .i64 r5, .int .i64 r6], .int .i64 r7]) ∧ Kd.V (Kd.int .i64) 3 w' w.heap.size (fun k_ => ((P0 k_ ∨ P1 k_) ∨ w.heap.size ≤ k_)) v0_ r1 ∧ Kd.V k29 29 w' w.heap.size (fun k_ => ((P0 k_ ∨ P1 k_) ∨ w.heap.size ≤ k_)) v1_ r2 ∧ Below w.heap.size w w' := by
 unfold pool_Lease.f at h
 by_cases hlow : a1 < 1
 ·
  rw [if_pos hlow] at h
  simp only [Option.some.injEq, Prod.mk.injEq] at h
  obtain ⟨rfl, rfl, rfl, rfl, rfl, rfl, rfl⟩ := h
  exact Lease_low P0 A0 c0 l0_0 P1 A c l a1 w hs0 hs1 hlow
 ·
  rw [if_neg hlow] at h
  cases hf : l.find? (ofP a1) with
  | some s =>
   rw [hf] at h
   simp only [Option.some.injEq, Prod.mk.injEq] at h
   obtain ⟨rfl, rfl, rfl, rfl, rfl, rfl, rfl⟩ := h
   exact Lease_had P0 A0 c0 l0_0 P1 A c l a1 w hs0 hs1 hlow s hf
  | none =>
   rw [hf] at h
   simp only [] at h
   by_cases hg : l.length ≤ 4398046510000 ∧ l0_0.length ≤ 17592186044416 ∧ (l.all fun s => decide (0 ≤ s.f0) && decide (s.f0 < (l0_0.length : Int))) = true
   ·
    rw [if_pos hg] at h
    obtain ⟨g1, g2, g3⟩ := hg
    refine Lease_go P0 A0 c0 l0_0 P1 A c l a1 w r1 r2 r3 r4 r5 r6 r7 hs0 hs1 hlow hf g1 g2 (fun s hs => ?_) h
    have := List.all_eq_true.1 g3 s hs
    simpa using this
   ·
    rw [if_neg hg] at h; cases h
end Go.Proofs.Ytgiofigjnchfeaa.Q
