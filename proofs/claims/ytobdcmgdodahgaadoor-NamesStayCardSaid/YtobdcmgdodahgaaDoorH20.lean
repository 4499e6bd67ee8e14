/- slices.Clone and slices.DeleteFunc at []api.Name, names.Drop: what they compute, and that their calls do so. -/
import Derived.Test.YtobdcmgdodahgaaDoorH29
import Derived.Lib.SliceRun
import Derived.Deep.RegionHeld3
namespace Go.Proofs.YtobdcmgdodahgaaDoor.Q
open Go.RowKit Go.Proofs.YtobdcmgdodahgaaDoorW.PrintWords Go.Proofs.YtobdcmgdodahgaaDoorW.PrintLast Go.Proofs.YtobdcmgdodahgaaDoorW.PrintMore
set_option linter.unusedVariables false
set_option linter.unusedSimpArgs false

theorem C_none {α : Type} {d : Kd α} {w : World} {n : Nat} {xs : List α} (h : d.C w none n xs) : xs = [] ∧ n = 0 := by
  have h0 : n = 0 := by
    rcases Nat.eq_zero_or_pos n with h0 | h0
    · exact h0
    · obtain ⟨ad, h, _⟩ := h.2.2 h0
      cases h
  exact ⟨List.eq_nil_of_length_eq_zero (by rw [h.1, h0]), h0⟩
theorem Flat.k31 : Flat k31 := Flat.iso (Flat.pair Flat.string (Flat.pair Flat.string Flat.bool)) _
theorem info31' : (Tryd.prog.info? 31).map (fun i => (i.zero, i.size, i.bytes)) = some (some (.agg #[.string ⟨#[]⟩, .string ⟨#[]⟩, .bool false]), 3, 40) := by kernel_rfl

set_option maxHeartbeats 8000000 in
set_option maxRecDepth 100000 in
theorem slices_Clone_20.calls (A0 : Option Addr) (c0 : Nat) (l0 : List S31) (w : World) (hC : Kd.C k31 w A0 l0.length l0) (hr : l0.length ≤ 3518437208880) :
    Calls Tryd.prog 20 #[.slice A0 l0.length c0] w fun e w' => ∃ v : Value, e = .returned v ∧ Kd.R k31 31 w' w.heap.size (fun _ => True) v l0 ∧ Below w.heap.size w w' := by
  have HC := Aside0.mk hC
  clear hC
  have hq := fun (W : World) (a : Option Addr) (n c : Nat) => Lib.run_eql_slice_nil (P := Tryd.prog) W 23 31 a n c 0 0 Tryd.underlying23
  cases A0 with
  | none =>
    obtain ⟨rfl, _⟩ := C_none HC.out
    go_enter Tryd.func20, Tryd.ntmps20
    go_wp2
    go_ret
    exact ⟨_, rfl, Kd.R_nil _ _ _ _ _, Below.refl _ _⟩
  | some ad =>
    go_enter Tryd.func20, Tryd.ntmps20
    go_wp2_with (at_builtin; refine Kd.R_append_rows k31 (Rr := k31.K w) (w0 := w) w.heap.size rfl (.tmp 5) (.tmp 6) 23 31 (.agg #[.string ⟨#[]⟩, .string ⟨#[]⟩, .bool false]) 40 rfl Tryd.underlying23 info31' rfl (by decide) (by decide) (.slice (some ⟨w.heap.size, 0, none⟩) 0 0) [] l0 (some ad) l0.length c0 (fun _ => True) (fun _ => False) rfl rfl ?aO ?aR (fun x cs h => Flat.k31 _ _ _ _ _ _ h) (fun _ h => h.elim) (fun _ _ => trivial) ?aB ?aS ?aL ?_; (case aO => exact R_lit0 _ 31 w); (case aR => exact Kd.C_alloc HC.out _); (case aB => exact below_alloc (Below.refl _ _) _); (case aS => simp); (case aL => simp; omega); intro v1 w1 ho hb hgr hat)
    go_ret
    exact ⟨_, rfl, ho, hb⟩

/-- What the row holds while it is rewritten. -/
structure DelInv {α : Type} (p : α → Bool) (l dk : List α) (i j : Nat) : Prop where
  len : dk.length = l.length
  lt : i < j
  le : j ≤ l.length
  low : dk.take i = (l.take j).filter fun x => !p x
  high : ∀ m, j ≤ m → dk[m]? = l[m]?
theorem DelInv.start {α : Type} {p : α → Bool} {l : List α} {n : Nat} (hn : n < l.length) (hf : ∀ j (hj : j < n), p (l[j]'(by omega)) = false) (ht : p l[n] = true) : DelInv p l l n (n + 1) := by
  refine ⟨rfl, by omega, by omega, ?_, fun _ _ => rfl⟩
  rw [List.take_succ_eq_append_getElem hn, List.filter_append]
  have h1 : (l.take n).filter (fun x => !p x) = l.take n := by
    rw [List.filter_eq_self]
    intro x hx
    obtain ⟨j, hj, rfl⟩ := List.getElem_of_mem hx
    rw [List.length_take] at hj
    rw [List.getElem_take, hf j (by omega)]
    rfl
  rw [h1]
  simp [ht]
theorem DelInv.skip {α : Type} {p : α → Bool} {l dk : List α} {i j : Nat} (h : DelInv p l dk i j) (hj : j < l.length) (hp : p l[j] = true) : DelInv p l dk i (j + 1) := by
  refine ⟨h.len, by have := h.lt; omega, by omega, ?_, fun m hm => h.high m (by omega)⟩
  rw [List.take_succ_eq_append_getElem hj, List.filter_append, ← h.low]
  simp [hp]
theorem DelInv.keep {α : Type} {p : α → Bool} {l dk : List α} {i j : Nat} (h : DelInv p l dk i j) (hj : j < l.length) (hp : p l[j] = false) : DelInv p l (dk.set i l[j]) (i + 1) (j + 1) := by
  have hlt := h.lt
  refine ⟨by rw [List.length_set]; exact h.len, by omega, by omega, ?_, fun m hm => ?_⟩
  · have hi : i < (dk.set i l[j]).length := by rw [List.length_set, h.len]; omega
    rw [List.take_succ_eq_append_getElem hi, List.take_succ_eq_append_getElem hj, List.filter_append, ← h.low, List.take_set, List.set_eq_of_length_le (by rw [List.length_take]; omega)]
    simp [hp]
  · rw [List.getElem?_set_ne (by omega)]
    exact h.high m (by omega)
theorem DelInv.at {α : Type} {p : α → Bool} {l dk : List α} {i j : Nat} (h : DelInv p l dk i j) (hj : j < l.length) : dk[j]? = some l[j] := by
  rw [h.high j (Nat.le_refl _), List.getElem?_eq_getElem hj]


theorem DelInv.ilt {α : Type} {p : α → Bool} {l dk : List α} {i j : Nat} (h : DelInv p l dk i j) : i < l.length := by have := h.lt; have := h.le; omega
def nul (n : Nat) : List Value := (Builtin.zeroCells (Value.cells (.agg #[.string ⟨#[]⟩, .string ⟨#[]⟩, .bool false])) n).toList
theorem nul_length (n : Nat) : (nul n).length = n * 3 := by simp [nul, Builtin.zeroCells, Value.cells]
theorem nul_one (n : Nat) : ∀ v ∈ nul n, v.oneCell' = true := by
  intro v hv
  simp only [nul, Builtin.zeroCells, Array.toList_map, List.mem_map] at hv
  obtain ⟨i, -, rfl⟩ := hv
  have h3 : i % 3 < 3 := Nat.mod_lt _ (by decide)
  have hz : ∀ k : Fin 3, ((Value.cells (.agg #[.string ⟨#[]⟩, .string ⟨#[]⟩, .bool false]))[k.val]!).oneCell' = true := by decide
  exact hz ⟨i % 3, h3⟩
theorem run_clear3 (w : World) (ty : TypeId) (b o n c : Nat) (hn : 0 < n)
    (hc : ∀ j, j < n * 3 → (w.cell? ⟨b, o + j, none⟩).isSome = true) (hf : ∀ j, j < n * 3 → w.frozen? ⟨b, o + j, none⟩ = false) :
    (Builtin.clear_ #[23] ty #[.slice (some ⟨b, o, none⟩) n c]).run Tryd.prog w = .ok (.tuple #[]) (w.setCells b o (nul n)) := by
  have hst := run_storeCells_cells (P := Tryd.prog) b o (nul n) 0 w (by rw [nul_length]; simpa using hc) (by rw [nul_length]; simpa using hf) (nul_one n)
  simp only [Nat.add_zero] at hst
  have hv : ∀ w, (zeroValue 31).run Tryd.prog w = .ok (.agg #[.string ⟨#[]⟩, .string ⟨#[]⟩, .bool false]) w := fun w => by kernel_rfl
  unfold nul at hst ⊢
  obtain ⟨m, rfl⟩ : ∃ m, n = m + 1 := ⟨n - 1, by omega⟩
  simp [Builtin.clear_, run_underlying Tryd.underlying23, hv, hst]

section
variable {w W : World} {base g n cap : Nat} {ok : Nat → Prop} {l : List S31}
theorem R_at3 (h : Kd.R k31 31 W base ok (.slice (some ⟨g, 0, none⟩) n cap) l) (i : Nat) (hi : i < l.length) : W.cell? ⟨g, i * 3, none⟩ = some (.string l[i].f0) ∧ W.cell? ⟨g, i * 3 + 1, none⟩ = some (.string l[i].f1) ∧ W.cell? ⟨g, i * 3 + 2, none⟩ = some (.bool l[i].f2) := by
  have hn := (Kd.R_reads' h).1
  obtain ⟨ad, e, h0, h1, h2⟩ := at_T31 (Kd.R_reads' h).2.2 (i : Int) (by omega) (by omega)
  cases e
  rw [show rd_T31 l (i : Int) = l[i] by simp [rd_T31, hi], Int.toNat_natCast] at h0 h1 h2
  have e0 : (Addr.add ⟨g, 0, none⟩ (i * 3)) = ⟨g, i * 3, none⟩ := by simp [Addr.add]; omega
  rw [e0] at h0 h1 h2
  exact ⟨h0, h1, h2⟩
theorem R_blk (h : Kd.R k31 31 W base ok (.slice (some ⟨g, 0, none⟩) n cap) l) : ∃ cs : Array Value, W.heap[g]? = some (.cells cs 31 (0, 0)) ∧ cs.size = cap * 3 := by
  obtain ⟨inner, ho⟩ := Kd.R_own h
  rcases ho.2 with ⟨hv, _⟩ | ⟨g', cap', cur, hv, hb, hh, hnc, hcm, hcs, _⟩
  · cases hv
  injection hv with ha _ hc
  injection ha with ha
  injection ha with hg'
  subst hg'; subst hc
  exact ⟨cur, hh, hcs⟩
theorem R_put3 (h : Kd.R k31 31 W base ok (.slice (some ⟨g, 0, none⟩) n cap) l) (i : Nat) (hi : i < l.length) (x : S31) :
    Kd.R k31 31 (((W.setCell ⟨g, i * 3, none⟩ (.string x.f0)).setCell ⟨g, i * 3 + 1, none⟩ (.string x.f1)).setCell ⟨g, i * 3 + 2, none⟩ (.bool x.f2)) base ok (.slice (some ⟨g, 0, none⟩) n cap) (l.set i x) ∧ W.grownBy (((W.setCell ⟨g, i * 3, none⟩ (.string x.f0)).setCell ⟨g, i * 3 + 1, none⟩ (.string x.f1)).setCell ⟨g, i * 3 + 2, none⟩ (.bool x.f2)) (some g) := by
  have hn := (Kd.R_reads' h).1
  obtain ⟨h0, h1, h2⟩ := R_at3 h i hi
  have := Kd.R_seg h (i : Int) (by omega) (by omega) (c := [.string l[i].f0, .string l[i].f1, .bool l[i].f2]) (seg := [.string x.f0, .string x.f1, .bool x.f2]) (j := 0) rfl (fun j u hj => by
    rw [Int.toNat_natCast]
    match j, hj with
    | 0, hj => cases hj; exact h0
    | 1, hj => cases hj; exact h1
    | 2, hj => cases hj; exact h2) (by show 0 + 3 ≤ 3; omega) (x' := x) (okp := fun _ => False) (by exact k31_mkM _ _ _ x) (fun _ hk => hk.elim)
  rw [Int.toNat_natCast] at this
  exact this
end

set_option maxHeartbeats 8000000 in
set_option maxRecDepth 100000 in
theorem slices_DeleteFunc.calls (p : S31 → Bool) (g : Nat) (lb : Array Value) (eg : ∀ args w, (callFunc g args).run Tryd.prog w = .ok (.enter g args) w) (S : World → Prop) (v : Value)
    (hS : ∀ W W' : World, W.heap.size ≤ W'.heap.size → (∀ k, some k ≠ v.ownBlock → k < W.heap.size → W'.heap[k]? = W.heap[k]?) → S W → S W')
    (hp : ∀ W (x : S31), S W → Calls Tryd.prog g (#[.agg #[.string x.f0, .string x.f1, .bool x.f2]] ++ lb) W fun e w' => e = .returned (.bool (p x)) ∧ Below W.heap.size W w')
    (base : Nat) (ok : Nat → Prop) (l0 : List S31) (w : World) (hR : Kd.R k31 31 w base ok v l0) (hw : S w) :
    Calls Tryd.prog 19 #[v, .func (.func g) #[] lb] w fun e w' => ∃ v' : Value, e = .returned v' ∧ Kd.R k31 31 w' base ok v' (l0.filter fun x => !p x) ∧ w.grownBy w' v.ownBlock := by
  have hu31 := Tryd.underlying31
  obtain ⟨A0, c0, rfl⟩ := Kd.R_slice hR
  have hrd := Kd.R_reads' hR
  have hcap := hrd.2.1
  have hm := hrd.2.2.2.1
  have hIF := slices_IndexFunc.calls A0 c0 l0 g lb p w hrd.2.2 eg (fun X x hX => hp X x (hS w X (by
    rcases Nat.eq_zero_or_pos w.heap.size with h0 | h0
    · omega
    · have hl : w.heap.size - 1 < w.heap.size := by omega
      have h2 := hX _ hl
      rw [Array.getElem?_eq_getElem hl] at h2
      have := (Array.getElem?_eq_some_iff.1 h2).1
      omega) (fun k _ hk => hX k hk) hw))
  have HI := Aside0.mk hIF
  have HR := Aside0.mk hR
  have HP := Aside0.mk hp
  have HS := Aside0.mk hS
  have HW := Aside0.mk hw
  clear hIF hR hp hS hw hrd
  rcases idxP_cases p l0 with ⟨e, -, ha⟩ | ⟨n, hn, e, -, ht, hf⟩
  · have HI1 := HI.out
    rw [e] at HI1
    have HJ := Aside0.mk HI1
    have HA := Aside0.mk ha
    clear HI1 HI e ha
    go_enter Tryd.func19, Tryd.ntmps19
    go_wp2_with (go_at_call 29; refine HJ.out.mono ?_; rintro e w' ⟨rfl, hb⟩; have HB := Aside0.mk hb; clear hb)
    go_ret
    rw [show (l0.filter fun x => !p x) = l0 from List.filter_eq_self.2 (fun x hx => by rw [HA.out x hx]; rfl)]
    exact ⟨_, rfl, Kd.R_below HR.out HB.out, grown_of_below HB.out _⟩
  · have HI1 := HI.out
    rw [e] at HI1
    have HJ := Aside0.mk HI1
    have HD := Aside0.mk (DelInv.start hn hf ht)
    clear HI1 HI e hf ht
    obtain ⟨gb, cap, hv, hgb, hglt, _⟩ := Kd.R_form HR.out (by omega)
    injection hv with hv1 hv2 hv3
    subst hv1
    subst hv3
    have hne1 : ((n : Int) == -1) = false := beq_eq_false_iff_ne.2 (by omega)
    go_enter Tryd.func19, Tryd.ntmps19
    go_wp2_with (go_at_call 29; refine HJ.out.mono ?_; rintro e w' ⟨rfl, hb⟩; have HB := Aside0.mk hb; clear hb)
    go_loopg [5, 6] l0.length (fun gg v5 v6 wr => ∃ (i j : Nat) (dk : List S31), v5 = .int .i64 i ∧ v6 = .int .i64 j ∧ j ≤ l0.length ∧ l0.length - j ≤ gg ∧ Aside0 (DelInv p l0 dk i j) ∧ Aside0 (Kd.R k31 31 wr base ok (.slice (some ⟨gb, 0, none⟩) l0.length c0) dk) ∧ Aside0 (w.grownBy wr (some gb)))
    case atStart => exact ⟨n, n + 1, l0, rfl, by go_num, by omega, by omega, HD, ⟨Kd.R_below HR.out HB.out⟩, ⟨grown_of_below HB.out _⟩⟩
    case round =>
      obtain ⟨i, j, dk, rfl, rfl, hj, hg, HD, HR, HG⟩ := hrel
      have hij := HD.out.lt
      have hlen := HD.out.len
      by_cases hlt : j < l0.length
      · have hltz : (j : Int) < (l0.length : Int) := by omega
        have hilz : (i : Int) < (l0.length : Int) := by omega
        have hi0 : (0 : Int) ≤ (i : Int) := by omega
        have hj0 : (0 : Int) ≤ (j : Int) := by omega
        have hdj : dk[j]'(by omega) = l0[j] := by have h2 := HD.out.at hlt; rw [List.getElem?_eq_getElem (by omega)] at h2; exact Option.some.inj h2
        obtain ⟨cj0, cj1, cj2⟩ := R_at3 HR.out j (by omega)
        rw [hdj] at cj0 cj1 cj2
        have HSw : S (wr.alloc (.cells #[.string l0[j].f0, .string l0[j].f1, .bool l0[j].f2] 31)) := HS.out w _ (Nat.le_trans HG.out.size (by simp)) (fun k hk hlt => (Below.heap_alloc _ _ k (Nat.lt_of_lt_of_le hlt HG.out.size)).trans (HG.out.block k hlt (by simpa [Value.ownBlock] using hk))) HW.out
        have hcall := HP.out _ l0[j] HSw
        have HDk := Aside0.mk (fun h => HD.out.keep hlt h)
        have HDs := Aside0.mk (fun h => HD.out.skip hlt h)
        clear hdj HSw
        generalize l0[j] = y at cj0 cj1 cj2 hcall HDk HDs
        cases hq : p y with
        | true =>
          rw [hq] at hcall
          have HK := Aside0.mk hcall
          have HQ := Aside0.mk hq
          clear hcall hq
          go_wp2_with (go_at_fn g; refine HK.out.mono ?_; rintro e w3 ⟨rfl, hb⟩; have HBY : Aside0 (Below wr.heap.size wr w3) := ⟨(below_alloc (Below.refl _ _) _).trans (hb.mono (by simp))⟩; clear hb)
          go_roundg (l0.length - (j + 1))
          case measure => omega
          case rel => exact ⟨i, j + 1, dk, rfl, by go_num, by omega, Nat.le_refl _, ⟨HDs.out HQ.out⟩, ⟨Kd.R_below HR.out HBY.out⟩, ⟨HG.out.trans (grown_of_below HBY.out _)⟩⟩
        | false =>
          rw [hq] at hcall
          have HK := Aside0.mk hcall
          have HQ := Aside0.mk hq
          clear hcall hq
          go_wp2_with (go_at_fn g; refine HK.out.mono ?_; rintro e w3 ⟨rfl, hb⟩; have hbx := blk_below (blk_new wr (.cells #[.string y.f0, .string y.f1, .bool y.f2] 31)) hb; have hv0 : w3.cell? ⟨wr.heap.size, 0, none⟩ = some (.string y.f0) := (blk_cell hbx 0).trans rfl; have hv1 : w3.cell? ⟨wr.heap.size, 1, none⟩ = some (.string y.f1) := (blk_cell hbx 1).trans rfl; have hv2 : w3.cell? ⟨wr.heap.size, 2, none⟩ = some (.bool y.f2) := (blk_cell hbx 2).trans rfl; have HBY : Aside0 (Below wr.heap.size wr w3) := ⟨(below_alloc (Below.refl _ _) _).trans (hb.mono (by simp))⟩; have HR3 : Aside0 (Kd.R k31 31 w3 base ok (.slice (some ⟨gb, 0, none⟩) l0.length c0) dk) := ⟨Kd.R_below HR.out HBY.out⟩; obtain ⟨ci0, ci1, ci2⟩ := R_at3 HR3.out i (by omega); have hfr : ∀ k, w3.frozen? ⟨gb, k, none⟩ = false := (by obtain ⟨cs, hcs, _⟩ := R_blk HR3.out; exact fun k => blk_frozen hcs k); clear hb hbx)
          go_roundg (l0.length - (j + 1))
          case measure => omega
          case rel =>
            have hst := R_put3 HR3.out i (by omega) y
            exact ⟨i + 1, j + 1, dk.set i y, by go_num, by go_num, by omega, Nat.le_refl _, ⟨HDk.out HQ.out⟩, ⟨hst.1⟩, ⟨HG.out.trans ((grown_of_below HBY.out _).trans hst.2)⟩⟩
      · obtain rfl : j = l0.length := by omega
        have hltz : ¬ (l0.length : Int) < (l0.length : Int) := by omega
        obtain ⟨cs, hcs, hcsz⟩ := R_blk HR.out
        have hcl : ∀ ty, (Builtin.clear_ #[23] ty #[.slice (some ⟨gb, i * 3, none⟩) (l0.length - i) (c0 - i)]).run Tryd.prog wr = .ok (.tuple #[]) (wr.setCells gb (i * 3) (nul (l0.length - i))) :=
          fun ty => run_clear3 wr ty gb (i * 3) _ _ (by omega) (fun t ht => by
            rw [blk_cell hcs, Array.getElem?_eq_getElem (by omega)]; rfl) (fun t ht => blk_frozen hcs _)
        have hcut := R_cut_clear Flat.k31 HR.out (m := i) (by omega) (nul (l0.length - i)) (by show i * 3 + _ ≤ c0 * 3; rw [nul_length]; omega)
        have HCUT : Aside0 (Kd.R k31 31 (wr.setCells gb (i * 3) (nul (l0.length - i))) base ok (.slice (some ⟨gb, 0, none⟩) i c0) (dk.take i) ∧ wr.grownBy (wr.setCells gb (i * 3) (nul (l0.length - i))) (some gb)) := ⟨hcut⟩
        clear hcut hcs hcsz
        have hi0 : (0 : Int) ≤ (i : Int) := by omega
        have hile : (i : Int) ≤ (l0.length : Int) := by omega
        go_wp2
        go_ret
        have hlow := HD.out.low
        rw [List.take_length] at hlow
        have h2 := HCUT.out
        rw [hlow] at h2
        exact ⟨_, rfl, h2.1, HG.out.trans h2.2⟩
end Go.Proofs.YtobdcmgdodahgaaDoor.Q
