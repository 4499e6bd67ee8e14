/- pool.Right: what it computes, and that its call does so. -/
import Derived.Test.YtgiofigjnchfeaaH14
import Derived.Test.YtgiofigjnchfeaaV2
import Derived.Maps.Own
import Derived.Maps.Views
import Derived.Maps.OwnSet
import Derived.Shelf.Abstract
namespace Go.Proofs.Ytgiofigjnchfeaa.Q
open Go.RowKit Go.Proofs.YtgiofigjnchfeaaW.PrintWords Go.Proofs.YtgiofigjnchfeaaW.PrintLast Go.Proofs.YtgiofigjnchfeaaW.PrintMore
set_option linter.unusedVariables false
set_option linter.unusedSimpArgs false

set_option maxHeartbeats 8000000 in
set_option maxRecDepth 100000 in
theorem slices_IndexFuncI.calls (A : Option Addr) (c : Nat) (l : List Int) (km : Nat) (cap : Array Value) (p : Int → Bool) (w : World) (hC : Kd.C (Kd.int .i64) w A l.length l)
  (eK : ∀ args w, (callFunc km args).run Try.prog w = .ok (.enter km args) w)
  (hmay : ∀ (X : World) (x : Int), (∀ k, k < w.heap.size → X.heap[k]? = w.heap[k]?) → Calls Try.prog km (#[.int .i64 x] ++ cap) X fun e w' => e = .returned (.bool (p x)) ∧ Below X.heap.size X w') :
  Calls Try.prog 58 #[.slice A l.length c, .func (.func km) #[] cap] w fun e w' => e = .returned (.int .i64 (idxP p l)) ∧ Below w.heap.size w w' := by
 have hm : l.length ≤ 9223372036854775807 := hC.2.1
 have HC := Aside0.mk hC
 have HM := Aside0.mk hmay
 clear hC hmay
 go_enter Try.func58, Try.ntmps58
 go_wp2
 go_loopg [8] l.length (fun gg v8 wr => ∃ n : Nat, n ≤ l.length ∧ l.length - n ≤ gg ∧ v8 = .int .i64 n ∧ Aside0 (∀ j (h : j < l.length), j < n → p l[j] = false) ∧ Aside0 (Below w.heap.size w wr))
 case atStart => exact ⟨0, Nat.zero_le _, by omega, rfl, ⟨fun j _ h => absurd h (Nat.not_lt_zero _)⟩, ⟨Below.refl _ _⟩⟩
 case round =>
  obtain ⟨n, hn, hg, rfl, HF, HB⟩ := hrel
  by_cases hlt : n < l.length
  ·
   have hltz : (n : Int) < (l.length : Int) := by omega
   obtain ⟨ad, e1, hx0⟩ := Kd.at_int (Kd.C_below HC.out HB.out) (n : Int) (by omega) hltz
   cases e1
   rw [show rd l (n : Int) = l[n] by simp [rd, hlt], Int.toNat_natCast] at hx0
   have hcall := HM.out wr l[n] (fun k hk => HB.out.block k hk)
   have hne0 : (0 : Int) ≤ (n : Int) := by omega
   generalize hy : l[n] = y at hx0 hcall
   have HY := Aside0.mk hy
   clear hy
   cases hq : p y with
   | true =>
    rw [hq] at hcall
    have HK := Aside0.mk hcall
    have HQ := Aside0.mk hq
    clear hcall hq
    go_wp2_with (go_at_fn km; refine HK.out.mono ?_; rintro e w' ⟨rfl, hb⟩; have HB2 := Aside0.mk (HB.out.trans (hb.mono HB.out.size)); clear hb)
    go_ret
    refine ⟨?_, HB2.out⟩
    have e1 : idxP p l = (n : Int) := by
     unfold idxP
     rw [idxPF_hit p l 0 n hlt (fun j hj => HF.out j (by omega) hj) (by rw [HY.out]; exact HQ.out)]
     omega
    simp only [e1]
    rfl
   | false =>
    rw [hq] at hcall
    have HK := Aside0.mk hcall
    have HQ := Aside0.mk hq
    clear hcall hq
    go_wp2_with (go_at_fn km; refine HK.out.mono ?_; rintro e w' ⟨rfl, hb⟩; have HB2 := Aside0.mk (HB.out.trans (hb.mono HB.out.size)); clear hb)
    go_roundg (l.length - (n + 1))
    case measure => omega
    case rel => exact ⟨n + 1, by omega, Nat.le_refl _, by go_num, ⟨fun j hj hlt2 => by
     by_cases e : j = n
     ·
      subst e; rw [HY.out]; exact HQ.out
     ·
      exact HF.out j hj (by omega)⟩, HB2⟩
  ·
   have hltz : ¬ (n : Int) < (l.length : Int) := by omega
   obtain rfl : n = l.length := by omega
   go_wp2
   go_ret
   refine ⟨?_, HB.out⟩
   have e1 : idxP p l = -1 := by
    unfold idxP
    refine idxPF_all p l 0 (fun x hx => ?_)
    obtain ⟨j, hj, rfl⟩ := List.getElem_of_mem hx
    exact HF.out j hj hj
   simp only [e1]
   rfl

def badMax (n : Int) : Bool := decide (n < 0) || decide (65535 < n)
theorem Right1.calls (x : Int) (w : World) : Calls Try.prog 51 #[.int .i64 x] w fun e w' => e = .returned (.bool (badMax x)) ∧ Below w.heap.size w w' := by
  unfold badMax
  by_cases h : x < 0
  · have h1 : decide (x < 0) = true := decide_eq_true h
    rw [h1]
    go_enter Try.func51, Try.ntmps51
    go_wp2
    go_ret
    exact ⟨rfl, Below.refl _ _⟩
  · have h1 : decide (x < 0) = false := decide_eq_false h
    rw [h1]
    go_enter Try.func51, Try.ntmps51
    go_wp2
    go_ret
    exact ⟨rfl, Below.refl _ _⟩
theorem idxP_any {α : Type} (p : α → Bool) (l : List α) : decide (0 ≤ idxP p l) = l.any p := by
  have key : ∀ (l : List α) (k : Nat), decide (0 ≤ idxPF p l k) = l.any p := by
    intro l
    induction l with
    | nil => intro k; rfl
    | cons x r ih =>
      intro k
      rw [idxPF, List.any_cons]
      cases h : p x with
      | true => simp
      | false => simp [ih]
  exact key l 0
theorem slices_ContainsFunc.calls (A : Option Addr) (c : Nat) (l : List Int) (w : World) (hC : Kd.C (Kd.int .i64) w A l.length l) :
    Calls Try.prog 50 #[.slice A l.length c, .func (.func 51) #[] #[]] w fun e w' => e = .returned (.bool (l.any badMax)) ∧ Below w.heap.size w w' := by
  have HI := Aside0.mk (slices_IndexFuncI.calls A c l 51 #[] badMax w hC eK51 (fun X x _ => Right1.calls x X))
  have HA := Aside0.mk (idxP_any badMax l)
  clear hC
  go_enter Try.func50, Try.ntmps50
  go_wp2_with (go_at_call 58; refine HI.out.mono ?_; rintro e w1 ⟨rfl, hb⟩; have HB := Aside0.mk hb; clear hb)
  go_ret
  exact ⟨by rw [← HA.out]; rfl, HB.out⟩

/-! The map of who was seen. -/
theorem plainElem_bool_inv {H : Type} {P : Program} {e : TypeId} (he : P.underlying e = some .bool) {v : Value} {z : DataW H × List MemPlace} (h : plainElem P e v = some z) : ∃ x, v = .bool x ∧ z = (.lit (.bool x), []) := by
  unfold plainElem at h
  rw [he] at h
  cases v <;> simp at h
  exact ⟨_, rfl, h.symm⟩
theorem zero4 (w : World) : (zeroValue 4).run Try.prog w = .ok (.bool false) w := by kernel_rfl
theorem law3 : Go.Maps.Keyed Try.prog 3 := Go.Maps.int_keyed Try.underlying3
theorem look_bool {H : Type} {w : World} {b n : Nat} {D : DataW H} (h : w.ownsMap Try.prog 3 (plainElem Try.prog 4) b n D) {v : Int} (hv : (Lit.int .i64 v).wf = true) :
    ∃ x : Bool, (Instr.lookup 77 (.map (some b)) (.int .i64 v) false).run Try.prog w = .ok (.bool x) w ∧ D.atKey (.int .i64 v) (.lit (.bool false)) = .lit (.bool x) := by
  obtain ⟨u, ps, hrun, hu⟩ := h.lookup law3 Try.underlying77 (zero4 w) (plainElem_bool Try.underlying4 false) (Go.Maps.keyOf_int_mk Try.underlying3 hv)
  obtain ⟨x, rfl, hx⟩ := plainElem_bool_inv Try.underlying4 hu
  simp only [Prod.mk.injEq] at hx
  exact ⟨x, hrun, hx.1⟩
/-- The map reads as the row of who was seen. -/
def SeenP (D : DataW Unit) (seen : List Int) : Prop := (∀ v : Int, (Lit.int .i64 v).wf = true → D.atKey (.int .i64 v) (.lit (.bool false)) = .lit (.bool (seen.contains v))) ∧ (0 : Int) ∉ seen
theorem SeenP.made : SeenP (.map []) [] := ⟨fun v _ => rfl, by simp⟩
theorem SeenP.put {D : DataW Unit} {seen : List Int} (h : SeenP D seen) (hD : Go.Maps.IsMap D) (x : Int) (hx : (Lit.int .i64 x).wf = true) : SeenP (D.put (.int .i64 x) (.lit (.bool (x != 0)))) (if x = 0 then seen else x :: seen) := by
  refine ⟨fun v hv => ?_, ?_⟩
  · by_cases e : v = x
    · subst e
      rw [Go.Maps.atKey_put_same hD (show WideAt.IsKeyLit (.int .i64 v) from trivial)]
      by_cases h0 : v = 0
      · subst h0
        rw [if_pos rfl]
        have : seen.contains (0 : Int) = false := by simpa using h.2
        rw [this]; rfl
      · rw [if_neg h0]
        simp [h0]
    · rw [Go.Maps.atKey_put_other (by intro hh; cases hh; exact e rfl), h.1 v hv]
      by_cases h0 : x = 0
      · rw [if_pos h0]
      · rw [if_neg h0]
        simp [e]
  · by_cases h0 : x = 0
    · rw [if_pos h0]; exact h.2
    · rw [if_neg h0]
      intro hm
      rcases List.mem_cons.1 hm with hm | hm
      · exact h0 hm.symm
      · exact h.2 hm

/-! What is right. -/
def notLt (prev : Option S29) (x : S29) : Bool := match prev with | none => false | some p => !(decide (p.f0 < x.f0) || (p.f0 == x.f0 && decide (p.f1 < x.f1)))
def slotBad (M : List Int) (prev : Option S29) (seen : List Int) (x : S29) : Bool :=
  notLt prev x ||
  (decide (x.f0 < 0) || decide ((M.length : Int) ≤ x.f0) || decide (x.f1 < 1) || decide (rd M x.f0 < x.f1)) ||
  (decide (x.f2 < 1) || decide (3 < x.f2) || ((x.f2 == 3) != (x.f3 == 0))) ||
  (decide (x.f3 < 0) || seen.contains x.f3)
def rightGo (M : List Int) : Option S29 → List Int → List S29 → Bool
  | _, _, [] => true
  | prev, seen, x :: r => if slotBad M prev seen x = true then false else rightGo M (some x) (if x.f3 = 0 then seen else x.f3 :: seen) r
def pool_Right.f (M : List Int) (L : List S29) : Option Bool :=
  if L.length ≤ 4398046511000 ∧ (L.all fun s => decide (-9223372036854775808 ≤ s.f3) && decide (s.f3 ≤ 9223372036854775807)) = true then
    some (if 64 < M.length then false else if M.any badMax = true then false else rightGo M none [] L)
  else none

theorem owns_below {H : Type} {W W' : World} {R : Value → Option (DataW H × List MemPlace)} {b n : Nat} {D : DataW H} (h : W.ownsMap Try.prog 3 R b n D) (hb : Below W.heap.size W W') : W'.ownsMap Try.prog 3 R b n D := by
  have hlt := h.lt
  obtain ⟨es, clock, h1, h2⟩ := h
  exact ⟨es, clock, (hb.block b hlt).trans h1, h2⟩
theorem put4_blk {W : World} {g : Nat} {a b c d : Value} (h : W.heap[g]? = some (.cells #[a, b, c, d] 29 (0, 0))) (x0 x1 x2 x3 : Value) :
    ((((W.setCell ⟨g, 0, none⟩ x0).setCell ⟨g, 1, none⟩ x1).setCell ⟨g, 2, none⟩ x2).setCell ⟨g, 3, none⟩ x3).heap[g]? = some (.cells #[x0, x1, x2, x3] 29 (0, 0)) :=
  blk_put (cs := #[x0, x1, x2, d]) (blk_put (cs := #[x0, x1, c, d]) (blk_put (cs := #[x0, b, c, d]) (blk_put (cs := #[a, b, c, d]) h 0 _ rfl) 1 _ rfl) 2 _ rfl) 3 _ rfl
theorem put4_far {W : World} {g q : Nat} {cs : Array Value} {t : TypeId} (h : W.heap[q]? = some (.cells cs t (0, 0))) (hne : q ≠ g) (x0 x1 x2 x3 : Value) :
    ((((W.setCell ⟨g, 0, none⟩ x0).setCell ⟨g, 1, none⟩ x1).setCell ⟨g, 2, none⟩ x2).setCell ⟨g, 3, none⟩ x3).heap[q]? = some (.cells cs t (0, 0)) :=
  blk_far (p := ⟨g, 3, none⟩) (blk_far (p := ⟨g, 2, none⟩) (blk_far (p := ⟨g, 1, none⟩) (blk_far (p := ⟨g, 0, none⟩) h hne _) hne _) hne _) hne _
theorem put4_owns {H : Type} {W : World} {R : Value → Option (DataW H × List MemPlace)} {b n g : Nat} {D : DataW H} (h : W.ownsMap Try.prog 3 R b n D) (hne : b ≠ g) (x0 x1 x2 x3 : Value) :
    ((((W.setCell ⟨g, 0, none⟩ x0).setCell ⟨g, 1, none⟩ x1).setCell ⟨g, 2, none⟩ x2).setCell ⟨g, 3, none⟩ x3).ownsMap Try.prog 3 R b n D :=
  World.ownsMap.setCell (World.ownsMap.setCell (World.ownsMap.setCell (World.ownsMap.setCell h hne _) hne _) hne _) hne _
theorem rd29_nat' {L : List S29} {i : Nat} (h : i < L.length) : rd_T29 L (i : Int) = L[i] := by simp [rd_T29, h]
theorem wf_of_all {L : List S29} (h : (L.all fun s => decide (-9223372036854775808 ≤ s.f3) && decide (s.f3 ≤ 9223372036854775807)) = true) {i : Nat} (hi : i < L.length) : (Lit.int .i64 (rd_T29 L i).f3).wf = true := by
  rw [rd29_nat' hi]
  have := List.all_eq_true.1 h _ (List.getElem_mem hi)
  simp only [Bool.and_eq_true, decide_eq_true_eq] at this
  simp [Lit.wf, IntKind.min, IntKind.max, IntKind.bits, IntKind.signed]
  omega

set_option maxHeartbeats 16000000 in
set_option maxRecDepth 100000 in
theorem pool_Right.calls (A0 : Option Addr) (c0 : Nat) (M : List Int) (A : Option Addr) (c : Nat) (L : List S29) (r : Bool) (w : World) (hr0 : Kd.C (Kd.int .i64) w A0 M.length M) (hc0 : M.length ≤ c0) (hr1 : Kd.C k29 w A L.length L) (hc1 : L.length ≤ c) (h : pool_Right.f M L = some r) :
    Calls Try.prog 26 #[.agg #[.slice A0 M.length c0, .slice A L.length c]] w fun e w' => e = .returned (.bool r) ∧ Below w.heap.size w w' := by
  have hu25 := Try.underlying25
  have hu29 := Try.underlying29
  have hmm := @run_makeMap Try.prog
  have hm0 : M.length ≤ 9223372036854775807 := hr0.2.1
  have hm1 : L.length ≤ 9223372036854775807 := hr1.2.1
  have HR0 := Aside0.mk hr0
  have HR1 := Aside0.mk hr1
  have HC0 := Aside0.mk hc0
  have HC1 := Aside0.mk hc1
  unfold pool_Right.f at h
  by_cases hg : L.length ≤ 4398046511000 ∧ (L.all fun s => decide (-9223372036854775808 ≤ s.f3) && decide (s.f3 ≤ 9223372036854775807)) = true
  · rw [if_pos hg] at h
    have HG := Aside0.mk hg
    have H := Aside0.mk (Option.some.inj h)
    clear h hg hr0 hr1 hc0 hc1
    have HB0 := Aside0.mk (Below.refl w.heap.size w)
    by_cases hbig : 64 < M.length
    · have hb0 : decide (64 < (M.length : Int)) = true := decide_eq_true (by omega)
      have hb1 : decide (64 < M.length) = true := decide_eq_true hbig
      obtain rfl : false = r := by have := H.out; rwa [if_pos hbig] at this
      clear hbig H
      go_enter Try.func26, Try.ntmps26
      go_wp2_with (first
        | ((with_reducible refine gate_dst (N := 1) rfl ?_); refine box_event ?hg (N := 1) ?hd (cs := #[.slice A0 M.length c0, .slice A L.length c]) (t := 25) ?hr ?_; (case hd => rfl); (case hg => rfl); (case hr => first | (go_simp; done) | (go_simp; rfl)); intro gp hg w3 hbox hb; have HBX := Aside0.mk hbox; have HB := Aside0.mk (below_step HB0.out hb); clear hb hg hbox; have z0 := (blk_cell HBX.out 0).trans rfl; have z1 := (blk_cell HBX.out 1).trans rfl))
      go_ret
      exact ⟨rfl, HB.out⟩
    · have hb0 : decide (64 < (M.length : Int)) = false := decide_eq_false (by omega)
      have hb1 : decide (64 < M.length) = false := decide_eq_false hbig
      have H1 : (if M.any badMax = true then false else rightGo M none [] L) = r := by have := H.out; rwa [if_neg hbig] at this
      clear hbig H
      cases hany : M.any badMax with
      | true =>
        obtain rfl : false = r := by rwa [hany, if_pos rfl] at H1
        have HANY := Aside0.mk hany
        clear H1 hany
        go_enter Try.func26, Try.ntmps26
        go_wp2_with (first
          | ((with_reducible refine gate_dst (N := 1) rfl ?_); refine box_event ?hg (N := 1) ?hd (cs := #[.slice A0 M.length c0, .slice A L.length c]) (t := 25) ?hr ?_; (case hd => rfl); (case hg => rfl); (case hr => first | (go_simp; done) | (go_simp; rfl)); intro gp hg w3 hbox hb; have HBX := Aside0.mk hbox; have HB := Aside0.mk (below_step HB0.out hb); clear hb hg hbox; have z0 := (blk_cell HBX.out 0).trans rfl; have z1 := (blk_cell HBX.out 1).trans rfl)
          | (go_at_call 50; refine (slices_ContainsFunc.calls A0 c0 M _ (Kd.C_below HR0.out HB.out)).mono ?_; rw [HANY.out]; rintro e w4 ⟨rfl, hb⟩; have HB2 := Aside0.mk (below_step HB.out hb); clear hb))
        go_ret
        exact ⟨rfl, HB2.out⟩
      | false =>
        have HGO : Aside0 (rightGo M none [] L = r) := ⟨by rwa [hany, if_neg (by decide)] at H1⟩
        have HANY := Aside0.mk hany
        clear H1 hany
        go_enter Try.func26, Try.ntmps26
        go_wp2_with (first
          | ((with_reducible refine gate_dst (N := 1) rfl ?_); refine box_event ?hg (N := 1) ?hd (cs := #[.slice A0 M.length c0, .slice A L.length c]) (t := 25) ?hr ?_; (case hd => rfl); (case hg => rfl); (case hr => first | (go_simp; done) | (go_simp; rfl)); intro gp hg w3 hbox hb; have HBX := Aside0.mk hbox; have HB := Aside0.mk (below_step HB0.out hb); clear hb hg hbox; have z0 := (blk_cell HBX.out 0).trans rfl; have z1 := (blk_cell HBX.out 1).trans rfl)
          | (go_at_call 50; refine (slices_ContainsFunc.calls A0 c0 M _ (Kd.C_below HR0.out HB.out)).mono ?_; rw [HANY.out]; rintro e w4 ⟨rfl, hb⟩; have HB2 := Aside0.mk (below_step HB.out hb); have HBX2 := Aside0.mk (blk_below HBX.out hb); clear hb; have y0 := (blk_cell (blk_alloc HBX2.out (.map #[] 0)) 0).trans rfl; have y1 := (blk_cell (blk_alloc HBX2.out (.map #[] 0)) 1).trans rfl))
        have HMAP := Aside0.mk (World.ownsMap_made (H := Unit) w4 Try.prog 3 (plainElem Try.prog 4))
        have HBXm := Aside0.mk (blk_alloc HBX2.out (.map #[] 0))
        have HBm := Aside0.mk (below_alloc HB2.out (.map #[] 0))
        have hgp : gp < w4.heap.size := blk_lt HBX2.out
        have HGP : Aside0 (gp ≠ w4.heap.size) := ⟨by omega⟩
        have HBG : Aside0 (w.heap.size ≤ w4.heap.size) := ⟨HB2.out.size⟩
        clear HBX2 HB2 HBX HB z0 z1 y0 y1 hgp
        generalize w4.alloc (.map #[] 0) = w5 at HMAP HBXm HBm ⊢
        generalize w4.heap.size = bm at HMAP HGP HBG ⊢
        go_loopg [19] (L.length + 1) (fun gg v19 wr => ∃ (i : Nat) (seen : List Int) (D : DataW Unit), v19 = .int .i64 i ∧ Aside0 (i + gg = L.length + 1) ∧ Aside0 (wr.heap[gp]? = some (.cells #[.slice A0 M.length c0, .slice A L.length c] 25 (0, 0))) ∧ Aside0 (wr.ownsMap Try.prog 3 (plainElem Try.prog 4) bm i D) ∧ Aside0 (SeenP D seen) ∧ Aside0 (rightGo M (if i = 0 then none else some (rd_T29 L ((i : Int) - 1))) seen (L.drop i) = r) ∧ Aside0 (Below w.heap.size w wr))
        case atStart => exact ⟨0, [], .map [], rfl, ⟨by omega⟩, HBXm, HMAP, ⟨SeenP.made⟩, HGO, HBm⟩
        case round =>
          obtain ⟨i, seen, D, rfl, HI, HX, HOWN, HSEEN, HGO, HB⟩ := hrel
          clear HMAP HBXm HBm
          by_cases hlt : i < L.length
          · have hlt0 : decide ((i : Int) < (L.length : Int)) = true := decide_eq_true (by omega)
            have hi0 : (0 : Int) ≤ (i : Int) := by omega
            have hi1 : (i : Int) < (L.length : Int) := by omega
            obtain ⟨ad, hA, hx0, hx1, hx2, hx3⟩ := at_T29 (Kd.C_below HR1.out HB.out) (i : Int) hi0 hi1
            subst hA
            rw [Int.toNat_natCast] at hx0 hx1 hx2 hx3
            have hdrop : L.drop i = rd_T29 L i :: L.drop (i + 1) := by rw [List.drop_eq_getElem_cons hlt, rd29_nat' hlt]
            have HG2 : Aside0 (rightGo M (if i = 0 then none else some (rd_T29 L ((i : Int) - 1))) seen (rd_T29 L i :: L.drop (i + 1)) = r) := ⟨by rw [← hdrop]; exact HGO.out⟩
            have HWF : Aside0 ((Lit.int .i64 (rd_T29 L i).f3).wf = true) := ⟨wf_of_all HG.out.2 hlt⟩
            clear HGO hdrop
            go_upto_region 7 with (first
              | ((with_reducible refine gate_dst (N := 5) rfl ?_); refine box_event ?hg (N := 5) ?hd (cs := #[.int .i64 0, .int .i64 0, .int .i64 0, .int .i64 0]) (t := 29) ?hr ?_; (case hd => rfl); (case hg => rfl); (case hr => first | (go_simp; done) | (go_simp; rfl)); intro gs hgs w6 hbox hb; have HS := Aside0.mk hbox; have HGS : Aside0 (w.heap.size ≤ gs) := ⟨by rw [hgs]; exact HB.out.size⟩; have HNE : Aside0 (gp ≠ gs) := ⟨by rw [hgs]; exact Nat.ne_of_lt (blk_lt HX.out)⟩; have HNB : Aside0 (bm ≠ gs) := ⟨by rw [hgs]; exact Nat.ne_of_lt HOWN.out.lt⟩; have n0 := Aside0.mk (blk_below HX.out hb); have n1 := Aside0.mk (owns_below HOWN.out hb); have n2 := Aside0.mk (below_step HB.out hb); clear hb hbox hgs HX HOWN HB; have HX := n0; have HOWN := n1; have HB := n2; clear n0 n1 n2; have q0 := (blk_cell HS.out 0).trans rfl; have q1 := (blk_cell HS.out 1).trans rfl; have q2 := (blk_cell HS.out 2).trans rfl; have q3 := (blk_cell HS.out 3).trans rfl; have f0 := blk_frozen HS.out 0; have f1 := blk_frozen HS.out 1; have f2 := blk_frozen HS.out 2; have f3 := blk_frozen HS.out 3))
            have HS7 := Aside0.mk (put4_blk HS.out (.int .i64 (rd_T29 L i).f0) (.int .i64 (rd_T29 L i).f1) (.int .i64 (rd_T29 L i).f2) (.int .i64 (rd_T29 L i).f3))
            have HX7 := Aside0.mk (put4_far HX.out HNE.out (.int .i64 (rd_T29 L i).f0) (.int .i64 (rd_T29 L i).f1) (.int .i64 (rd_T29 L i).f2) (.int .i64 (rd_T29 L i).f3))
            have HOWN7 := Aside0.mk (put4_owns HOWN.out HNB.out (.int .i64 (rd_T29 L i).f0) (.int .i64 (rd_T29 L i).f1) (.int .i64 (rd_T29 L i).f2) (.int .i64 (rd_T29 L i).f3))
            have HB7 := Aside0.mk (below_set (below_set (below_set (below_set HB.out HGS.out (j := 0) (v := .int .i64 (rd_T29 L i).f0)) HGS.out (j := 1) (v := .int .i64 (rd_T29 L i).f1)) HGS.out (j := 2) (v := .int .i64 (rd_T29 L i).f2)) HGS.out (j := 3) (v := .int .i64 (rd_T29 L i).f3))
            clear HS HX HOWN HB q0 q1 q2 q3 f0 f1 f2 f3 hx0 hx1 hx2 hx3
            generalize ((((w6.setCell ⟨gs, 0, none⟩ (.int .i64 (rd_T29 L i).f0)).setCell ⟨gs, 1, none⟩ (.int .i64 (rd_T29 L i).f1)).setCell ⟨gs, 2, none⟩ (.int .i64 (rd_T29 L i).f2)).setCell ⟨gs, 3, none⟩ (.int .i64 (rd_T29 L i).f3)) = w7 at HS7 HX7 HOWN7 HB7 ⊢
            obtain ⟨b1, hb1⟩ : ∃ b1, notLt (if i = 0 then none else some (rd_T29 L ((i : Int) - 1))) (rd_T29 L i) = b1 := ⟨_, rfl⟩
            have HQ1 := Aside0.mk hb1
            clear hb1
            have e0 := (blk_cell HX7.out 0).trans rfl
            have e1 := (blk_cell HX7.out 1).trans rfl
            have s0 := (blk_cell HS7.out 0).trans rfl
            have s1 := (blk_cell HS7.out 1).trans rfl
            have s2 := (blk_cell HS7.out 2).trans rfl
            have s3 := (blk_cell HS7.out 3).trans rfl
            go_cut [24] (fun v24 wc => v24 = .bool b1 ∧ Aside0 (wc.heap[gs]? = some (.cells #[.int .i64 (rd_T29 L i).f0, .int .i64 (rd_T29 L i).f1, .int .i64 (rd_T29 L i).f2, .int .i64 (rd_T29 L i).f3] 29 (0, 0))) ∧ Aside0 (wc.heap[gp]? = some (.cells #[.slice A0 M.length c0, .slice (some ad) L.length c] 25 (0, 0))) ∧ Aside0 (wc.ownsMap Try.prog 3 (plainElem Try.prog 4) bm i D) ∧ Aside0 (Below w.heap.size w wc))
            case first =>
              by_cases hz : i = 0
              · have hp0 : decide ((0 : Int) < (i : Int)) = false := decide_eq_false (by omega)
                obtain rfl : false = b1 := by have := HQ1.out; rw [if_pos hz] at this; exact this
                have HZ := Aside0.mk hz
                clear hz
                refine start_ (n := 14) (S := (fun w' => w'.cell? ⟨gp, 1, none⟩ = some (.slice (some ad) L.length c) ∧ w'.cell? ⟨gs, 0, none⟩ = some (.int .i64 (rd_T29 L i).f0) ∧ w'.cell? ⟨gs, 1, none⟩ = some (.int .i64 (rd_T29 L i).f1) ∧ w'.cell? ⟨gs, 2, none⟩ = some (.int .i64 (rd_T29 L i).f2) ∧ w'.cell? ⟨gs, 3, none⟩ = some (.int .i64 (rd_T29 L i).f3))) (ds := []) #[false, false, false, false, false, false, false, false, false, false, false, false, false, false] (by kernel_rfl) rfl rfl ⟨e1, s0, s1, s2, s3⟩ (fun hHeld => ?_)
                refine take_ (i := 0) (N := some 25) (v := ?_) (a' := ?_) #[true, false, false, false, false, false, false, false, false, false, false, false, false, false] rfl rfl (by kernel_rfl) (fun _ _ _ h => h) (Or.inl ⟨by rfl, ?_⟩) hHeld ?_ ?_
                rotate_left
                · rintro w' ⟨p0, p1, p2, p3, p4⟩
                  go_simp
                  first | done | with_reducible rfl | exact HZ.out | exact Nat.pos_of_ne_zero HZ.out | skip
                rotate_left
                · simp only [Act.put, List.setIfInBounds_toArray, List.set_cons_zero, List.set_cons_succ, i64_w, i32_w]
                  rfl
                refine take_ (i := 1) (N := some 26) (v := .bool false) (a' := ?_) #[true, true, false, false, false, false, false, false, false, false, false, false, false, false] rfl rfl (by kernel_rfl) (fun _ _ _ h => h) (Or.inl ⟨by rfl, ?_⟩) hHeld ?_ ?_
                · rintro w' ⟨p0, p1, p2, p3, p4⟩
                  go_simp
                  first | done | with_reducible rfl | exact HZ.out | exact Nat.pos_of_ne_zero HZ.out | skip
                rotate_left
                · simp only [Act.put, List.setIfInBounds_toArray, List.set_cons_zero, List.set_cons_succ, i64_w, i32_w]
                  rfl
                refine take_ (i := 2) (N := some 27) (v := ?_) (a' := ?_) #[true, true, true, false, false, false, false, false, false, false, false, false, false, false] rfl rfl (by kernel_rfl) (fun _ _ _ h => h) (Or.inl ⟨by rfl, ?_⟩) hHeld ?_ ?_
                rotate_left
                · rintro w' ⟨p0, p1, p2, p3, p4⟩
                  go_simp
                  first | done | with_reducible rfl | exact HZ.out | exact Nat.pos_of_ne_zero HZ.out | skip
                rotate_left
                · simp only [Act.put, List.setIfInBounds_toArray, List.set_cons_zero, List.set_cons_succ, i64_w, i32_w]
                  rfl
                refine take_ (i := 3) (N := some 28) (v := undef) (a' := ?_) #[true, true, true, true, false, false, false, false, false, false, false, false, false, false] rfl rfl (by kernel_rfl) (fun _ _ _ h => h) (Or.inr ⟨by rfl, rfl⟩) hHeld ?_ ?_
                rotate_left
                · simp only [Act.put, List.setIfInBounds_toArray, List.set_cons_zero, List.set_cons_succ, i64_w, i32_w]
                  rfl
                refine take_ (i := 4) (N := some 29) (v := undef) (a' := ?_) #[true, true, true, true, true, false, false, false, false, false, false, false, false, false] rfl rfl (by kernel_rfl) (fun _ _ _ h => h) (Or.inr ⟨by rfl, rfl⟩) hHeld ?_ ?_
                rotate_left
                · simp only [Act.put, List.setIfInBounds_toArray, List.set_cons_zero, List.set_cons_succ, i64_w, i32_w]
                  rfl
                refine take_ (i := 5) (N := some 30) (v := undef) (a' := ?_) #[true, true, true, true, true, true, false, false, false, false, false, false, false, false] rfl rfl (by kernel_rfl) (fun _ _ _ h => h) (Or.inr ⟨by rfl, rfl⟩) hHeld ?_ ?_
                rotate_left
                · simp only [Act.put, List.setIfInBounds_toArray, List.set_cons_zero, List.set_cons_succ, i64_w, i32_w]
                  rfl
                refine take_ (i := 6) (N := some 31) (v := undef) (a' := ?_) #[true, true, true, true, true, true, true, false, false, false, false, false, false, false] rfl rfl (by kernel_rfl) (fun _ _ _ h => h) (Or.inr ⟨by rfl, rfl⟩) hHeld ?_ ?_
                rotate_left
                · simp only [Act.put, List.setIfInBounds_toArray, List.set_cons_zero, List.set_cons_succ, i64_w, i32_w]
                  rfl
                refine take_ (i := 7) (N := some 32) (v := undef) (a' := ?_) #[true, true, true, true, true, true, true, true, false, false, false, false, false, false] rfl rfl (by kernel_rfl) (fun _ _ _ h => h) (Or.inr ⟨by rfl, rfl⟩) hHeld ?_ ?_
                rotate_left
                · simp only [Act.put, List.setIfInBounds_toArray, List.set_cons_zero, List.set_cons_succ, i64_w, i32_w]
                  rfl
                refine take_ (i := 8) (N := some 33) (v := undef) (a' := ?_) #[true, true, true, true, true, true, true, true, true, false, false, false, false, false] rfl rfl (by kernel_rfl) (fun _ _ _ h => h) (Or.inr ⟨by rfl, rfl⟩) hHeld ?_ ?_
                rotate_left
                · simp only [Act.put, List.setIfInBounds_toArray, List.set_cons_zero, List.set_cons_succ, i64_w, i32_w]
                  rfl
                refine take_ (i := 9) (N := some 34) (v := undef) (a' := ?_) #[true, true, true, true, true, true, true, true, true, true, false, false, false, false] rfl rfl (by kernel_rfl) (fun _ _ _ h => h) (Or.inr ⟨by rfl, rfl⟩) hHeld ?_ ?_
                rotate_left
                · simp only [Act.put, List.setIfInBounds_toArray, List.set_cons_zero, List.set_cons_succ, i64_w, i32_w]
                  rfl
                refine take_ (i := 10) (N := some 35) (v := undef) (a' := ?_) #[true, true, true, true, true, true, true, true, true, true, true, false, false, false] rfl rfl (by kernel_rfl) (fun _ _ _ h => h) (Or.inr ⟨by rfl, rfl⟩) hHeld ?_ ?_
                rotate_left
                · simp only [Act.put, List.setIfInBounds_toArray, List.set_cons_zero, List.set_cons_succ, i64_w, i32_w]
                  rfl
                refine take_ (i := 11) (N := some 36) (v := undef) (a' := ?_) #[true, true, true, true, true, true, true, true, true, true, true, true, false, false] rfl rfl (by kernel_rfl) (fun _ _ _ h => h) (Or.inr ⟨by rfl, rfl⟩) hHeld ?_ ?_
                rotate_left
                · simp only [Act.put, List.setIfInBounds_toArray, List.set_cons_zero, List.set_cons_succ, i64_w, i32_w]
                  rfl
                refine take_ (i := 12) (N := some 37) (v := ?_) (a' := ?_) #[true, true, true, true, true, true, true, true, true, true, true, true, true, false] rfl rfl (by kernel_rfl) (fun _ _ _ h => h) (Or.inl ⟨by rfl, ?_⟩) hHeld ?_ ?_
                rotate_left
                · rintro w' ⟨p0, p1, p2, p3, p4⟩
                  go_simp
                  first | done | with_reducible rfl | exact HZ.out | exact Nat.pos_of_ne_zero HZ.out | skip
                rotate_left
                · simp only [Act.put, List.setIfInBounds_toArray, List.set_cons_zero, List.set_cons_succ, i64_w, i32_w]
                  rfl
                refine take_ (i := 13) (N := some 24) (v := ?_) (a' := ?_) #[true, true, true, true, true, true, true, true, true, true, true, true, true, true] rfl rfl (by kernel_rfl) (fun _ _ _ h => h) (Or.inl ⟨by rfl, ?_⟩) hHeld ?_ ?_
                rotate_left
                · rintro w' ⟨p0, p1, p2, p3, p4⟩
                  go_simp
                  first | done | with_reducible rfl | exact HZ.out | exact Nat.pos_of_ne_zero HZ.out | skip
                rotate_left
                · simp only [Act.put, List.setIfInBounds_toArray, List.set_cons_zero, List.set_cons_succ, i64_w, i32_w]
                  rfl
                refine done_ (by kernel_rfl) ?_
                (try simp only [Act.put, List.setIfInBounds_toArray, List.set_cons_zero, List.set_cons_succ])
                go_wp2
                go_meet
                exact ⟨rfl, ⟨HS7.out⟩, ⟨HX7.out⟩, ⟨HOWN7.out⟩, ⟨below_drew1 HB7.out⟩⟩
              · have hp0 : decide ((0 : Int) < (i : Int)) = true := decide_eq_true (by omega)
                obtain ⟨ad', hA', hy0, hy1, hy2, hy3⟩ := at_T29 (Kd.C_below HR1.out HB7.out) ((i : Int) - 1) (by omega) (by omega)
                obtain rfl : ad = ad' := Option.some.inj hA'
                have hsub : wrap64 ((i : Int) - 1) = (i : Int) - 1 := by unfold wrap64; omega
                have hj0 : (0 : Int) ≤ (i : Int) - 1 := by omega
                have hj1 : (i : Int) - 1 < (L.length : Int) := by omega
                have HQ2 : Aside0 ((!(decide ((rd_T29 L ((i : Int) - 1)).f0 < (rd_T29 L i).f0) || ((rd_T29 L ((i : Int) - 1)).f0 == (rd_T29 L i).f0 && decide ((rd_T29 L ((i : Int) - 1)).f1 < (rd_T29 L i).f1)))) = b1) := ⟨by have := HQ1.out; rw [if_neg hz] at this; exact this⟩
                have HLESS := Aside0.mk (less.calls (rd_T29 L ((i : Int) - 1)).f0 (rd_T29 L ((i : Int) - 1)).f1 (rd_T29 L ((i : Int) - 1)).f2 (rd_T29 L ((i : Int) - 1)).f3 (rd_T29 L i).f0 (rd_T29 L i).f1 (rd_T29 L i).f2 (rd_T29 L i).f3)
                obtain ⟨lb, hlb⟩ : ∃ lb, (decide ((rd_T29 L ((i : Int) - 1)).f0 < (rd_T29 L i).f0) || ((rd_T29 L ((i : Int) - 1)).f0 == (rd_T29 L i).f0 && decide ((rd_T29 L ((i : Int) - 1)).f1 < (rd_T29 L i).f1))) = lb := ⟨_, rfl⟩
                rw [hlb] at HLESS HQ2
                clear hlb
                have HZ := Aside0.mk hz
                have HT : Aside0 (((i : Int) - 1).toNat = i - 1) := ⟨by omega⟩
                have h1i : (1 : Int) ≤ (i : Int) := by omega
                rw [HT.out] at hy0 hy1 hy2 hy3
                clear hz hA'
                refine start_ (n := 14) (S := (fun w' => w'.cell? ⟨gp, 1, none⟩ = some (.slice (some ad) L.length c) ∧ w'.cell? ⟨gs, 0, none⟩ = some (.int .i64 (rd_T29 L i).f0) ∧ w'.cell? ⟨gs, 1, none⟩ = some (.int .i64 (rd_T29 L i).f1) ∧ w'.cell? ⟨gs, 2, none⟩ = some (.int .i64 (rd_T29 L i).f2) ∧ w'.cell? ⟨gs, 3, none⟩ = some (.int .i64 (rd_T29 L i).f3) ∧ w'.cell? (ad.add ((i - 1) * 4)) = some (.int .i64 (rd_T29 L ((i : Int) - 1)).f0) ∧ w'.cell? ⟨(ad.add ((i - 1) * 4)).block, (ad.add ((i - 1) * 4)).off + 1, none⟩ = some (.int .i64 (rd_T29 L ((i : Int) - 1)).f1) ∧ w'.cell? ⟨(ad.add ((i - 1) * 4)).block, (ad.add ((i - 1) * 4)).off + 2, none⟩ = some (.int .i64 (rd_T29 L ((i : Int) - 1)).f2) ∧ w'.cell? ⟨(ad.add ((i - 1) * 4)).block, (ad.add ((i - 1) * 4)).off + 3, none⟩ = some (.int .i64 (rd_T29 L ((i : Int) - 1)).f3))) (ds := []) #[false, false, false, false, false, false, false, false, false, false, false, false, false, false] (by kernel_rfl) rfl rfl ⟨e1, s0, s1, s2, s3, hy0, hy1, hy2, hy3⟩ (fun hHeld => ?_)
                refine take_ (i := 0) (N := some 25) (v := ?_) (a' := ?_) #[true, false, false, false, false, false, false, false, false, false, false, false, false, false] rfl rfl (by kernel_rfl) (fun _ _ _ h => h) (Or.inl ⟨by rfl, ?_⟩) hHeld ?_ ?_
                rotate_left
                · rintro w' ⟨p0, p1, p2, p3, p4, p5, p6, p7, p8⟩
                  go_simp
                  first | done | with_reducible rfl | exact HZ.out | exact Nat.pos_of_ne_zero HZ.out | skip
                rotate_left
                · simp only [Act.put, List.setIfInBounds_toArray, List.set_cons_zero, List.set_cons_succ, i64_w, i32_w]
                  rfl
                refine take_ (i := 1) (N := some 26) (v := .bool true) (a' := ?_) #[true, true, false, false, false, false, false, false, false, false, false, false, false, false] rfl rfl (by kernel_rfl) (fun _ _ _ h => h) (Or.inl ⟨by rfl, ?_⟩) hHeld ?_ ?_
                · rintro w' ⟨p0, p1, p2, p3, p4, p5, p6, p7, p8⟩
                  go_simp
                  first | done | with_reducible rfl | exact HZ.out | exact Nat.pos_of_ne_zero HZ.out | skip
                rotate_left
                · simp only [Act.put, List.setIfInBounds_toArray, List.set_cons_zero, List.set_cons_succ, i64_w, i32_w]
                  rfl
                refine take_ (i := 2) (N := some 27) (v := ?_) (a' := ?_) #[true, true, true, false, false, false, false, false, false, false, false, false, false, false] rfl rfl (by kernel_rfl) (fun _ _ _ h => h) (Or.inl ⟨by rfl, ?_⟩) hHeld ?_ ?_
                rotate_left
                · rintro w' ⟨p0, p1, p2, p3, p4, p5, p6, p7, p8⟩
                  go_simp
                  first | done | with_reducible rfl | exact HZ.out | exact Nat.pos_of_ne_zero HZ.out | skip
                rotate_left
                · simp only [Act.put, List.setIfInBounds_toArray, List.set_cons_zero, List.set_cons_succ, i64_w, i32_w]
                  rfl
                refine take_ (i := 3) (N := some 28) (v := ?_) (a' := ?_) #[true, true, true, true, false, false, false, false, false, false, false, false, false, false] rfl rfl (by kernel_rfl) (fun _ _ _ h => h) (Or.inl ⟨by rfl, ?_⟩) hHeld ?_ ?_
                rotate_left
                · rintro w' ⟨p0, p1, p2, p3, p4, p5, p6, p7, p8⟩
                  go_simp
                  first | done | with_reducible rfl | exact HZ.out | exact Nat.pos_of_ne_zero HZ.out | skip
                rotate_left
                · simp only [Act.put, List.setIfInBounds_toArray, List.set_cons_zero, List.set_cons_succ, i64_w, i32_w]
                  rfl
                refine take_ (i := 4) (N := some 29) (v := ?_) (a' := ?_) #[true, true, true, true, true, false, false, false, false, false, false, false, false, false] rfl rfl (by kernel_rfl) (fun _ _ _ h => h) (Or.inl ⟨by rfl, ?_⟩) hHeld ?_ ?_
                rotate_left
                · rintro w' ⟨p0, p1, p2, p3, p4, p5, p6, p7, p8⟩
                  go_simp
                  first | done | with_reducible rfl | exact HZ.out | exact Nat.pos_of_ne_zero HZ.out | skip
                rotate_left
                · simp only [Act.put, List.setIfInBounds_toArray, List.set_cons_zero, List.set_cons_succ, i64_w, i32_w]
                  rfl
                refine take_ (i := 5) (N := some 30) (v := ?_) (a' := ?_) #[true, true, true, true, true, true, false, false, false, false, false, false, false, false] rfl rfl (by kernel_rfl) (fun _ _ _ h => h) (Or.inl ⟨by rfl, ?_⟩) hHeld ?_ ?_
                rotate_left
                · rintro w' ⟨p0, p1, p2, p3, p4, p5, p6, p7, p8⟩
                  go_simp
                  first | done | with_reducible rfl | exact HZ.out | exact Nat.pos_of_ne_zero HZ.out | skip
                rotate_left
                · simp only [Act.put, List.setIfInBounds_toArray, List.set_cons_zero, List.set_cons_succ, i64_w, i32_w]
                  rfl
                refine take_ (i := 6) (N := some 31) (v := ?_) (a' := ?_) #[true, true, true, true, true, true, true, false, false, false, false, false, false, false] rfl rfl (by kernel_rfl) (fun _ _ _ h => h) (Or.inl ⟨by rfl, ?_⟩) hHeld ?_ ?_
                rotate_left
                · rintro w' ⟨p0, p1, p2, p3, p4, p5, p6, p7, p8⟩
                  go_simp
                  first | done | with_reducible rfl | exact HZ.out | exact Nat.pos_of_ne_zero HZ.out | skip
                rotate_left
                · simp only [Act.put, List.setIfInBounds_toArray, List.set_cons_zero, List.set_cons_succ, i64_w, i32_w]
                  rfl
                refine take_ (i := 7) (N := some 32) (v := ?_) (a' := ?_) #[true, true, true, true, true, true, true, true, false, false, false, false, false, false] rfl rfl (by kernel_rfl) (fun _ _ _ h => h) (Or.inl ⟨by rfl, ?_⟩) hHeld ?_ ?_
                rotate_left
                · rintro w' ⟨p0, p1, p2, p3, p4, p5, p6, p7, p8⟩
                  go_simp
                  first | done | with_reducible rfl | exact HZ.out | exact Nat.pos_of_ne_zero HZ.out | skip
                rotate_left
                · simp only [Act.put, List.setIfInBounds_toArray, List.set_cons_zero, List.set_cons_succ, i64_w, i32_w]
                  rfl
                refine take_ (i := 8) (N := some 33) (v := ?_) (a' := ?_) #[true, true, true, true, true, true, true, true, true, false, false, false, false, false] rfl rfl (by kernel_rfl) (fun _ _ _ h => h) (Or.inl ⟨by rfl, ?_⟩) hHeld ?_ ?_
                rotate_left
                · rintro w' ⟨p0, p1, p2, p3, p4, p5, p6, p7, p8⟩
                  go_simp
                  first | done | with_reducible rfl | exact HZ.out | exact Nat.pos_of_ne_zero HZ.out | skip
                rotate_left
                · simp only [Act.put, List.setIfInBounds_toArray, List.set_cons_zero, List.set_cons_succ, i64_w, i32_w]
                  rfl
                refine take_ (i := 9) (N := some 34) (v := ?_) (a' := ?_) #[true, true, true, true, true, true, true, true, true, true, false, false, false, false] rfl rfl (by kernel_rfl) (fun _ _ _ h => h) (Or.inl ⟨by rfl, ?_⟩) hHeld ?_ ?_
                rotate_left
                · rintro w' ⟨p0, p1, p2, p3, p4, p5, p6, p7, p8⟩
                  go_simp
                  first | done | with_reducible rfl | exact HZ.out | exact Nat.pos_of_ne_zero HZ.out | skip
                rotate_left
                · simp only [Act.put, List.setIfInBounds_toArray, List.set_cons_zero, List.set_cons_succ, i64_w, i32_w]
                  rfl
                refine one_ (i := 10) (N := some 35) #[true, true, true, true, true, true, true, true, true, true, true, false, false, false] rfl rfl (by kernel_rfl) (by decide) (fun K hK => ?_)
                refine goes_ Try.func37 (by kernel_rfl) rfl #[.agg #[.int .i64 (rd_T29 L ((i : Int) - 1)).f0, .int .i64 (rd_T29 L ((i : Int) - 1)).f1, .int .i64 (rd_T29 L ((i : Int) - 1)).f2, .int .i64 (rd_T29 L ((i : Int) - 1)).f3], .agg #[.int .i64 (rd_T29 L i).f0, .int .i64 (rd_T29 L i).f1, .int .i64 (rd_T29 L i).f2, .int .i64 (rd_T29 L i).f3]] rfl rfl rfl (by (try simp only [List.map_toArray, List.map_cons, List.map_nil]); first | done | rfl) ?_
                refine (HLESS.out _).mono ?_
                rintro e8 w8 ⟨rfl, hb⟩
                refine ⟨_, rfl, ?_⟩
                have HB8 := Aside0.mk (below_step (below_drew1 HB7.out) hb)
                have HS8 := Aside0.mk (blk_below (blk_drew HS7.out) hb)
                have HX8 := Aside0.mk (blk_below (blk_drew HX7.out) hb)
                have HOWN8 := Aside0.mk (owns_below HOWN7.out.drew hb)
                obtain ⟨ad8, hA8, t5, t6, t7, t8⟩ := at_T29 (Kd.C_below HR1.out HB8.out) ((i : Int) - 1) hj0 hj1
                obtain rfl : ad = ad8 := Option.some.inj hA8
                rw [HT.out] at t5 t6 t7 t8
                refine hK.out _ _ ⟨(blk_cell HX8.out 1).trans rfl, (blk_cell HS8.out 0).trans rfl, (blk_cell HS8.out 1).trans rfl, (blk_cell HS8.out 2).trans rfl, (blk_cell HS8.out 3).trans rfl, t5, t6, t7, t8⟩ (fun hHeld => ?_)
                clear hK K hb hA8 t5 t6 t7 t8
                refine norm_ (a' := ?_) ?_ ?_
                rotate_left
                · show Act.put _ (some 35) _ = _
                  simp only [Act.put, List.setIfInBounds_toArray, List.set_cons_zero, List.set_cons_succ, i64_w, i32_w]
                  rfl
                refine take_ (i := 11) (N := some 36) (v := ?_) (a' := ?_) #[true, true, true, true, true, true, true, true, true, true, true, true, false, false] rfl rfl (by kernel_rfl) (fun _ _ _ h => h) (Or.inl ⟨by rfl, ?_⟩) hHeld ?_ ?_
                rotate_left
                · rintro w' ⟨p0, p1, p2, p3, p4, p5, p6, p7, p8⟩
                  go_simp
                  first | done | with_reducible rfl | exact HZ.out | exact Nat.pos_of_ne_zero HZ.out | skip
                rotate_left
                · simp only [Act.put, List.setIfInBounds_toArray, List.set_cons_zero, List.set_cons_succ, i64_w, i32_w]
                  rfl
                refine take_ (i := 12) (N := some 37) (v := ?_) (a' := ?_) #[true, true, true, true, true, true, true, true, true, true, true, true, true, false] rfl rfl (by kernel_rfl) (fun _ _ _ h => h) (Or.inl ⟨by rfl, ?_⟩) hHeld ?_ ?_
                rotate_left
                · rintro w' ⟨p0, p1, p2, p3, p4, p5, p6, p7, p8⟩
                  go_simp
                  first | done | with_reducible rfl | exact HZ.out | exact Nat.pos_of_ne_zero HZ.out | skip
                rotate_left
                · simp only [Act.put, List.setIfInBounds_toArray, List.set_cons_zero, List.set_cons_succ, i64_w, i32_w]
                  rfl
                refine take_ (i := 13) (N := some 24) (v := ?_) (a' := ?_) #[true, true, true, true, true, true, true, true, true, true, true, true, true, true] rfl rfl (by kernel_rfl) (fun _ _ _ h => h) (Or.inl ⟨by rfl, ?_⟩) hHeld ?_ ?_
                rotate_left
                · rintro w' ⟨p0, p1, p2, p3, p4, p5, p6, p7, p8⟩
                  go_simp
                  first | done | with_reducible rfl | exact HZ.out | exact Nat.pos_of_ne_zero HZ.out | skip
                rotate_left
                · simp only [Act.put, List.setIfInBounds_toArray, List.set_cons_zero, List.set_cons_succ, i64_w, i32_w]
                  rfl
                refine done_ (by kernel_rfl) ?_
                (try simp only [Act.put, List.setIfInBounds_toArray, List.set_cons_zero, List.set_cons_succ])
                rw [HQ2.out]
                go_wp2
                go_meet
                exact ⟨rfl, HS8, HX8, HOWN8, HB8⟩
            case rest =>
              obtain ⟨rfl, HS8, HX8, HOWN8, HB8⟩ := hcut
              clear HS7 HX7 HOWN7 HB7 e0 e1 s0 s1 s2 s3
              obtain ⟨X, hX⟩ : ∃ X, rd_T29 L i = X := ⟨_, rfl⟩
              rw [hX] at HS8 HG2 HWF HQ1
              have HXE := Aside0.mk hX
              clear hX
              obtain ⟨x0, x1, x2, x3⟩ := X
              have HWF : Aside0 ((Lit.int .i64 x3).wf = true) := HWF
              have HS8 : Aside0 (wc.heap[gs]? = some (.cells #[.int .i64 x0, .int .i64 x1, .int .i64 x2, .int .i64 x3] 29 (0, 0))) := HS8
              cases b1 with
              | true =>
                obtain rfl : false = r := by have := HG2.out; rwa [rightGo, if_pos (by unfold slotBad; rw [HQ1.out]; rfl)] at this
                go_wp2
                go_ret
                exact ⟨rfl, HB8.out⟩
              | false =>
                obtain ⟨b2, hb2⟩ : ∃ b2, (decide (x0 < 0) || decide ((M.length : Int) ≤ x0) || decide (x1 < 1) || decide (rd M x0 < x1)) = b2 := ⟨_, rfl⟩
                have HQ2 := Aside0.mk hb2
                clear hb2
                have e0 := (blk_cell HX8.out 0).trans rfl; have s0 := (blk_cell HS8.out 0).trans rfl; have s1 := (blk_cell HS8.out 1).trans rfl; have s2 := (blk_cell HS8.out 2).trans rfl; have s3 := (blk_cell HS8.out 3).trans rfl
                go_upto_region 8 with (fail)
                go_cut [38] (fun v38 wc => v38 = .bool b2 ∧ Aside0 (wc.heap[gs]? = some (.cells #[.int .i64 x0, .int .i64 x1, .int .i64 x2, .int .i64 x3] 29 (0, 0))) ∧ Aside0 (wc.heap[gp]? = some (.cells #[.slice A0 M.length c0, .slice (some ad) L.length c] 25 (0, 0))) ∧ Aside0 (wc.ownsMap Try.prog 3 (plainElem Try.prog 4) bm i D) ∧ Aside0 (Below w.heap.size w wc))
                case first =>
                  by_cases hc1 : x0 < 0
                  · have d1 : decide (x0 < 0) = true := decide_eq_true hc1
                    obtain rfl : true = b2 := by rw [← HQ2.out, d1]; rfl
                    clear hc1 HQ2
                    go_quiet (fail)
                    go_wp2
                    go_meet
                    exact ⟨rfl, ⟨blk_drewN HS8.out _⟩, ⟨blk_drewN HX8.out _⟩, ⟨owns_below HOWN8.out (below_drewN0 _ _)⟩, ⟨pw_below_drewN HB8.out _⟩⟩
                  · have d1 : decide (x0 < 0) = false := decide_eq_false hc1
                    by_cases hc2 : (M.length : Int) ≤ x0
                    · have d2 : decide ((M.length : Int) ≤ x0) = true := decide_eq_true hc2
                      obtain rfl : true = b2 := by rw [← HQ2.out, d1, d2]; rfl
                      clear hc1 hc2 HQ2
                      go_quiet (fail)
                      go_wp2
                      go_meet
                      exact ⟨rfl, ⟨blk_drewN HS8.out _⟩, ⟨blk_drewN HX8.out _⟩, ⟨owns_below HOWN8.out (below_drewN0 _ _)⟩, ⟨pw_below_drewN HB8.out _⟩⟩
                    · have d2 : decide ((M.length : Int) ≤ x0) = false := decide_eq_false hc2
                      by_cases hc3 : x1 < 1
                      · have d3 : decide (x1 < 1) = true := decide_eq_true hc3
                        obtain rfl : true = b2 := by rw [← HQ2.out, d1, d2, d3]; rfl
                        clear hc1 hc2 hc3 HQ2
                        go_quiet (fail)
                        go_wp2
                        go_meet
                        exact ⟨rfl, ⟨blk_drewN HS8.out _⟩, ⟨blk_drewN HX8.out _⟩, ⟨owns_below HOWN8.out (below_drewN0 _ _)⟩, ⟨pw_below_drewN HB8.out _⟩⟩
                      · have d3 : decide (x1 < 1) = false := decide_eq_false hc3
                        obtain rfl : decide (rd M x0 < x1) = b2 := by rw [← HQ2.out, d1, d2, d3]; rfl
                        have hlo : 0 ≤ x0 := by omega
                        have hhi : x0 < (M.length : Int) := by omega
                        obtain ⟨adm, eA, hm⟩ := Kd.at_int (Kd.C_below HR0.out HB8.out) x0 hlo hhi
                        cases eA
                        clear hc1 hc2 hc3 HQ2
                        go_quiet (fail)
                        go_wp2
                        go_meet
                        exact ⟨rfl, ⟨blk_drewN HS8.out _⟩, ⟨blk_drewN HX8.out _⟩, ⟨owns_below HOWN8.out (below_drewN0 _ _)⟩, ⟨pw_below_drewN HB8.out _⟩⟩
                case rest =>
                  obtain ⟨rfl, HS9, HX9, HOWN9, HB9⟩ := hcut
                  clear HS8 HX8 HOWN8 HB8 e0 s0 s1 s2 s3
                  cases b2 with
                  | true =>
                    obtain rfl : false = r := by have := HG2.out; rwa [rightGo, if_pos (by unfold slotBad; rw [HQ1.out, HQ2.out]; rfl)] at this
                    go_wp2
                    go_ret
                    exact ⟨rfl, HB9.out⟩
                  | false =>
                    obtain ⟨b3, hb3⟩ : ∃ b3, (decide (x2 < 1) || decide (3 < x2) || ((x2 == 3) != (x3 == 0))) = b3 := ⟨_, rfl⟩
                    have HQ3 := Aside0.mk hb3
                    clear hb3
                    have e0 := (blk_cell HX9.out 0).trans rfl; have s0 := (blk_cell HS9.out 0).trans rfl; have s1 := (blk_cell HS9.out 1).trans rfl; have s2 := (blk_cell HS9.out 2).trans rfl; have s3 := (blk_cell HS9.out 3).trans rfl
                    go_upto_region 9 with (fail)
                    go_cut [66] (fun v66 wc => v66 = .bool b3 ∧ Aside0 (wc.heap[gs]? = some (.cells #[.int .i64 x0, .int .i64 x1, .int .i64 x2, .int .i64 x3] 29 (0, 0))) ∧ Aside0 (wc.heap[gp]? = some (.cells #[.slice A0 M.length c0, .slice (some ad) L.length c] 25 (0, 0))) ∧ Aside0 (wc.ownsMap Try.prog 3 (plainElem Try.prog 4) bm i D) ∧ Aside0 (Below w.heap.size w wc))
                    case first =>
                      by_cases hc1 : x2 < 1
                      · have d1 : decide (x2 < 1) = true := decide_eq_true hc1
                        obtain rfl : true = b3 := by rw [← HQ3.out, d1]; rfl
                        clear hc1 HQ3
                        go_wp2
                        go_meet
                        exact ⟨rfl, HS9, HX9, HOWN9, HB9⟩
                      · have d1 : decide (x2 < 1) = false := decide_eq_false hc1
                        by_cases hc2 : 3 < x2
                        · have d2 : decide (3 < x2) = true := decide_eq_true hc2
                          obtain rfl : true = b3 := by rw [← HQ3.out, d1, d2]; rfl
                          clear hc1 hc2 HQ3
                          go_wp2
                          go_meet
                          exact ⟨rfl, HS9, HX9, HOWN9, HB9⟩
                        · have d2 : decide (3 < x2) = false := decide_eq_false hc2
                          clear hc1 hc2
                          cases d3 : (x2 == 3) with
                          | true =>
                            cases d4 : (x3 == 0) with
                            | true =>
                              obtain rfl : false = b3 := by rw [← HQ3.out, d1, d2, d3, d4]; rfl
                              clear HQ3
                              go_wp2
                              go_meet
                              exact ⟨rfl, HS9, HX9, HOWN9, HB9⟩
                            | false =>
                              obtain rfl : true = b3 := by rw [← HQ3.out, d1, d2, d3, d4]; rfl
                              clear HQ3
                              go_wp2
                              go_meet
                              exact ⟨rfl, HS9, HX9, HOWN9, HB9⟩
                          | false =>
                            cases d4 : (x3 == 0) with
                            | true =>
                              obtain rfl : true = b3 := by rw [← HQ3.out, d1, d2, d3, d4]; rfl
                              clear HQ3
                              go_wp2
                              go_meet
                              exact ⟨rfl, HS9, HX9, HOWN9, HB9⟩
                            | false =>
                              obtain rfl : false = b3 := by rw [← HQ3.out, d1, d2, d3, d4]; rfl
                              clear HQ3
                              go_wp2
                              go_meet
                              exact ⟨rfl, HS9, HX9, HOWN9, HB9⟩
                    case rest =>
                      obtain ⟨rfl, HSA, HXA, HOWNA, HBA⟩ := hcut
                      clear HS9 HX9 HOWN9 HB9 e0 s0 s1 s2 s3
                      cases b3 with
                      | true =>
                        obtain rfl : false = r := by have := HG2.out; rwa [rightGo, if_pos (by unfold slotBad; rw [HQ1.out, HQ2.out, HQ3.out]; rfl)] at this
                        go_wp2
                        go_ret
                        exact ⟨rfl, HBA.out⟩
                      | false =>
                        have e0 := (blk_cell HXA.out 0).trans rfl; have s0 := (blk_cell HSA.out 0).trans rfl; have s1 := (blk_cell HSA.out 1).trans rfl; have s2 := (blk_cell HSA.out 2).trans rfl; have s3 := (blk_cell HSA.out 3).trans rfl
                        go_upto_region 10 with (fail)
                        by_cases hc1 : x3 < 0
                        · have d1 : decide (x3 < 0) = true := decide_eq_true hc1
                          obtain rfl : false = r := by have := HG2.out; rwa [rightGo, if_pos (by unfold slotBad; rw [HQ1.out, HQ2.out, HQ3.out, d1]; rfl)] at this
                          clear hc1
                          go_wp2
                          go_ret
                          exact ⟨rfl, HBA.out⟩
                        · have d1 : decide (x3 < 0) = false := decide_eq_false hc1
                          clear hc1
                          obtain ⟨bx, hrun, hat⟩ := look_bool HOWNA.out HWF.out
                          have HAT : Aside0 (seen.contains x3 = bx) := ⟨by have h2 := HSEEN.out.1 x3 HWF.out; rw [hat] at h2; injection h2 with h2; injection h2 with h2; exact h2.symm⟩
                          clear hat
                          cases bx with
                          | true =>
                            obtain rfl : false = r := by have := HG2.out; rwa [rightGo, if_pos (by unfold slotBad; rw [HQ1.out, HQ2.out, HQ3.out, d1, HAT.out]; rfl)] at this
                            go_wp2
                            go_ret
                            exact ⟨rfl, HBA.out⟩
                          | false =>
                            have HGN : Aside0 (rightGo M (some ⟨x0, x1, x2, x3⟩) (if x3 = 0 then seen else x3 :: seen) (L.drop (i + 1)) = r) := ⟨by have := HG2.out; rwa [rightGo, if_neg (by unfold slotBad; rw [HQ1.out, HQ2.out, HQ3.out, d1, HAT.out]; decide)] at this⟩
                            have HSN := Aside0.mk (HSEEN.out.put HOWNA.out.isMap x3 HWF.out)
                            have hmax : i < maxLen := by have h1 := HG.out.1; have h2 := Nat.lt_of_lt_of_le hlt h1; unfold maxLen; omega
                            have HMAX := Aside0.mk hmax
                            clear hmax
                            go_upto_region 12 with (fail)
                            go_wp2_with (first
                              | (at_mapUpdate; refine wpList_mapUpdate_own _ rfl _ _ _ 77 rfl 3 4 law3 Try.underlying77 _ bm i _ rfl HOWNA.out HMAX.out _ _ (.int .i64 x3) rfl rfl (Go.Maps.keyOf_int_mk Try.underlying3 HWF.out) _ [] (plainElem_bool Try.underlying4 _) ?_; intro w1 hown1 hgrow1; have HOWNB := Aside0.mk hown1; have HBB := Aside0.mk (HBA.out.grown hgrow1 HBA.out.size (fun k hk => by cases hk; exact HBG.out)); have HXB := Aside0.mk ((hgrow1.block gp (blk_lt HXA.out) (by intro e; injection e with e; exact HGP.out e)).trans HXA.out); clear hown1 hgrow1)
                              | go_in)
                            have HRR : Aside0 (rightGo M (if i + 1 = 0 then none else some (rd_T29 L (((i + 1 : Nat) : Int) - 1))) (if x3 = 0 then seen else x3 :: seen) (L.drop (i + 1)) = r) := ⟨by rw [if_neg (by omega), show (((i + 1 : Nat) : Int) - 1) = (i : Int) from by omega, HXE.out]; exact HGN.out⟩
                            clear e0 s0 s1 s2 s3 hrun d1
                            go_roundg (L.length - i)
                            case measure => have := HI.out; omega
                            case rel => exact ⟨i + 1, _, _, by go_num, ⟨by have := HI.out; omega⟩, HXB, HOWNB, HSN, HRR, HBB⟩
          · have hlt0 : decide ((i : Int) < (L.length : Int)) = false := decide_eq_false (by omega)
            have hr : true = r := by have := HGO.out; rwa [List.drop_eq_nil_of_le (by omega)] at this
            subst hr
            go_wp2
            go_ret
            exact ⟨rfl, HB.out⟩
  · rw [if_neg hg] at h
    cases h
end Go.Proofs.Ytgiofigjnchfeaa.Q
