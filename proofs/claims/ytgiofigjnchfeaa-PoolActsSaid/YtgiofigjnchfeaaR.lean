/- How data that came in reads, kind by kind: out of the form's own reading. -/
import Derived.Test.YtgiofigjnchfeaaS
import Derived.ProofKit
import Derived.ChangeArms
import Derived.SizedLaws
namespace Go.Proofs.Ytgiofigjnchfeaa.Q
open Go.RowKit Go.Proofs.YtgiofigjnchfeaaW.PrintWords Go.Proofs.YtgiofigjnchfeaaW.PrintLast Go.Proofs.YtgiofigjnchfeaaW.PrintMore
set_option linter.unusedVariables false
set_option linter.unusedSimpArgs false

/-- What reads at type t is of kind d, and right (wf). -/
def Rdg {α : Type} (P : Program) (W : World) (t : TypeId) (d : Kd α) (wf : α → Prop) : Prop :=
  ∀ (H : Type) (enc : TypeId × Value → H) (fuel : Nat) (cs : List Value) (x : DataW H × List MemPlace), DataW.trod enc P W 0 (fun _ => true) true fuel t cs = some x → (∀ n ∈ x.1.weights P t, n ≤ reachBytes) → ∃ a : α, d.K W a cs ∧ wf a
/-- The same of a struct's fields from a place on. -/
def RdgF {α : Type} (P : Program) (W : World) (fs : List Field) (off : Nat) (d : Kd α) (wf : α → Prop) : Prop :=
  ∀ (H : Type) (enc : TypeId × Value → H) (n : Nat) (cs : List Value) (xs : List (DataW H × List MemPlace)), xs.length = fs.length →
    (∀ (i : Nat) (f : Field), fs[i]? = some f → DataW.trod enc P W 0 (fun _ => true) true n f.type ((cs.drop f.offset).take (P.cellsOf f.type)) = xs[i]?) →
    (∀ m ∈ DataW.weightsEach P (fs.map (·.type)) (xs.map (·.1)), m ≤ reachBytes) → ∃ a : α, d.K W a ((cs.drop off).take d.sz) ∧ wf a
section
variable {P : Program} {W : World} {t e : TypeId}
theorem Rdg.int {k : IntKind} (hu : P.underlying t = some (.int k)) : Rdg P W t (Kd.int k) (fun a => (Lit.int k a).wf = true) := by
  intro H enc fuel cs x h _
  obtain ⟨n, rfl, _, hw⟩ := DataW.trod_int hu h
  exact ⟨n, rfl, hw⟩
theorem Rdg.bool (hu : P.underlying t = some .bool) : Rdg P W t Kd.bool (fun _ => True) := by
  intro H enc fuel cs x h _
  obtain ⟨n, rfl, _⟩ := DataW.trod_bool hu h
  exact ⟨n, rfl, trivial⟩
theorem Rdg.string (hu : P.underlying t = some .string) : Rdg P W t Kd.string (fun s => s.size ≤ reachBytes) := by
  intro H enc fuel cs x h hw
  obtain ⟨s, rfl, rfl, _⟩ := DataW.trod_string hu h
  refine ⟨s, rfl, ?_⟩
  have := hw s.data.toList.length (by simp [DataW.weights])
  simpa using this
theorem Rdg.slice {α : Type} {d : Kd α} {wf : α → Prop} {B : Nat} (hd : Rdg P W e d wf) (hu : P.underlying t = some (.slice e)) (hs : P.cellsOf e = d.sz) (hB : P.bytesOf e = B) :
    Rdg P W t (Kd.slice e d) (fun l => l.length * B ≤ reachBytes ∧ ∀ a ∈ l, wf a) := by
  intro H enc fuel cs x h hw
  rcases DataW.trod_slice hu h with ⟨rfl, _⟩ | ⟨a, len, cap, elems, rest, n, rfl, rfl, rfl, hb, hl, hc, hel, he, _, _⟩
  · exact ⟨[], ⟨none, 0, rfl, Nat.le_refl _, Kd.C_nil _ _⟩, by simp, fun a ha => by cases ha⟩
  · have hwt : ∀ m ∈ DataW.weightsAll P e (elems.map (·.1)), m ≤ reachBytes := fun m hm => hw m (by
      simp only [DataW.weights, hu]
      exact List.mem_cons_of_mem _ (List.mem_append_left _ hm))
    have hlen : len * B ≤ reachBytes := by
      have := hw (((elems.map (·.1)).length + (rest.map (·.1)).length) * P.bytesOf e) (by simp only [DataW.weights, hu]; exact List.mem_cons_self)
      rw [hB] at this
      exact Nat.le_trans (Nat.mul_le_mul_right _ (by rw [List.length_map, hel]; omega)) this
    have hmem : ∀ (i : Nat) (y : DataW H × List MemPlace), elems[i]? = some y → ∀ m ∈ y.1.weights P e, m ≤ reachBytes := by
      intro i y hy m hm
      refine hwt m ?_
      clear hwt hw hlen he h hel
      induction elems generalizing i with
      | nil => simp at hy
      | cons z r ih =>
        cases i with
        | zero =>
          simp only [List.getElem?_cons_zero, Option.some.injEq] at hy
          subst hy
          simp only [List.map_cons, DataW.weightsAll]
          exact List.mem_append_left _ hm
        | succ i =>
          simp only [List.map_cons, DataW.weightsAll]
          exact List.mem_append_right _ (ih i (by simpa using hy))
    have hone : ∀ i, i < len → ∃ (a' : α) (c : List Value), c.length = d.sz ∧ d.K W a' c ∧ wf a' ∧ ∀ j u, c[j]? = some u → W.cell? (a.add (i * d.sz + j)) = some u := by
      intro i hi
      have h1 := he i hi
      have hi' : i < elems.length := by omega
      rw [List.getElem?_eq_getElem hi', Option.bind_eq_some_iff] at h1
      obtain ⟨c, hc1, hc2⟩ := h1
      obtain ⟨a', hk, hwf⟩ := hd H enc n c _ hc2 (hmem i _ (List.getElem?_eq_getElem hi'))
      have hc3 := World.cells?_some hc1
      rw [hs] at hc3
      refine ⟨a', c, d.K_len hk, hk, hwf, fun j u hju => ?_⟩
      have hjl : j < d.sz := by rw [← d.K_len hk]; exact (List.getElem?_eq_some_iff.1 hju).1
      have := hc3.2.2 j hjl
      rw [Addr.add_add] at this
      rw [this]
      exact hju
    have hall : ∀ m, m ≤ len → ∃ l : List α, l.length = m ∧ ∀ (j : Nat) (p : α), l[j]? = some p → wf p ∧ ∃ c, c.length = d.sz ∧ d.K W p c ∧ ∀ i u, c[i]? = some u → W.cell? (a.add (j * d.sz + i)) = some u := by
      intro m
      induction m with
      | zero => exact fun _ => ⟨[], rfl, fun j p hj => by simp at hj⟩
      | succ m ih =>
        intro hm
        obtain ⟨l, hll, hlp⟩ := ih (by omega)
        obtain ⟨a', c, h1, h2, h3, h4⟩ := hone m (by omega)
        refine ⟨l ++ [a'], by rw [List.length_append, hll, List.length_singleton], fun j p hj => ?_⟩
        rcases Nat.lt_or_ge j l.length with hjl | hjl
        · rw [List.getElem?_append_left hjl] at hj
          exact hlp j p hj
        · have hj2 := (List.getElem?_eq_some_iff.1 hj).1
          rw [List.length_append, List.length_singleton] at hj2
          obtain rfl : j = l.length := by omega
          rw [List.getElem?_append_right (Nat.le_refl _)] at hj
          simp at hj
          subst hj
          rw [hll]
          exact ⟨h3, c, h1, h2, h4⟩
    obtain ⟨l, hll, hlp⟩ := hall len (Nat.le_refl _)
    subst hll
    refine ⟨l, ⟨some a, cap, rfl, hl, ⟨rfl, Nat.le_trans hl hc, fun _ => ⟨a, rfl, fun j p hj => (hlp j p hj).2⟩⟩⟩, hlen, fun p hp => ?_⟩
    obtain ⟨j, hj, rfl⟩ := List.getElem_of_mem hp
    exact (hlp j _ (List.getElem?_eq_getElem hj)).1
theorem RdgF.one {α : Type} {d : Kd α} {wf : α → Prop} {f : Field} {off : Nat} (hf : Rdg P W f.type d wf) (ho : f.offset = off) (hs : P.cellsOf f.type = d.sz) : RdgF P W [f] off d wf := by
  intro H enc n cs xs hl hx hw
  match xs, hl with
  | [y], _ =>
    have h1 := hx 0 f rfl
    rw [ho, hs] at h1
    exact hf H enc n _ y h1 (fun m hm => hw m (by simp only [List.map_cons, List.map_nil, DataW.weightsEach]; exact List.mem_append_left _ hm))
theorem RdgF.cons {α β : Type} {d1 : Kd α} {d2 : Kd β} {wf1 : α → Prop} {wf2 : β → Prop} {f : Field} {fs : List Field} {off : Nat} (hf : Rdg P W f.type d1 wf1) (ho : f.offset = off) (hs : P.cellsOf f.type = d1.sz) (hr : RdgF P W fs (off + d1.sz) d2 wf2) :
    RdgF P W (f :: fs) off (Kd.pair d1 d2) (fun x => wf1 x.1 ∧ wf2 x.2) := by
  intro H enc n cs xs hl hx hw
  match xs, hl with
  | y :: ys, hl =>
    have h1 := hx 0 f rfl
    rw [ho, hs] at h1
    obtain ⟨a, hk, hwf⟩ := hf H enc n _ y h1 (fun m hm => hw m (by simp only [List.map_cons, DataW.weightsEach]; exact List.mem_append_left _ hm))
    obtain ⟨b, hk2, hwf2⟩ := hr H enc n cs ys (by simpa using hl) (fun i f' hf' => by have := hx (i + 1) f' (by simpa using hf'); simpa using this) (fun m hm => hw m (by simp only [List.map_cons, DataW.weightsEach]; exact List.mem_append_right _ hm))
    refine ⟨(a, b), ⟨_, _, ?_, hk, hk2⟩, hwf, hwf2⟩
    show (cs.drop off).take (d1.sz + d2.sz) = _
    rw [List.take_add, List.drop_drop]
theorem Rdg.struct {α : Type} {d : Kd α} {wf : α → Prop} {fs : Array Field} (hu : P.underlying t = some (.struct fs)) (hs : P.cellsOf t = d.sz) (hf : RdgF P W fs.toList 0 d wf) : Rdg P W t d wf := by
  intro H enc fuel cs x h hw
  obtain ⟨xs, n, rfl, rfl, hl, hlen, hx⟩ := DataW.trod_struct hu h
  obtain ⟨a, hk, hwf⟩ := hf H enc n cs xs (by simpa using hlen) (fun i f hf => hx i f (by simpa using hf)) (fun m hm => hw m (by simp only [DataW.weights, hu]; exact hm))
  rw [List.drop_zero, List.take_of_length_le (by rw [hl, hs]; exact Nat.le_refl _)] at hk
  exact ⟨a, hk, hwf⟩
theorem Rdg.iso {α β : Type} {d : Kd α} {wf : α → Prop} {f : β → α} (h : Rdg P W t d wf) (g : α → β) (hg : ∀ a, f (g a) = a) : Rdg P W t (Kd.iso d f) (fun b => wf (f b)) := by
  intro H enc fuel cs x hx hw
  obtain ⟨a, hk, hwf⟩ := h H enc fuel cs x hx hw
  exact ⟨g a, (show d.K W (f (g a)) cs by rw [hg]; exact hk), (show wf (f (g a)) by rw [hg]; exact hwf)⟩
theorem Rdg.imp {α : Type} {d : Kd α} {wf wf' : α → Prop} (h : Rdg P W t d wf) (hi : ∀ a, wf a → wf' a) : Rdg P W t d wf' := by
  intro H enc fuel cs x hx hw
  obtain ⟨a, hk, hwf⟩ := h H enc fuel cs x hx hw
  exact ⟨a, hk, hi a hwf⟩
/-- An argument. -/
theorem Rdg.arg {α : Type} {d : Kd α} {wf : α → Prop} (h : Rdg P W t d wf) {H : Type} {enc : TypeId × Value → H} {v : Value} {x : DataW H} {ps : List MemPlace} {ts : List TypeId} {ds : List (DataW H)} {j : Nat}
    (hsz : (DataW.weightsEach P ts ds).all (· ≤ reachBytes) = true) (ht : ts[j]? = some t) (hd : ds[j]? = some x) (hx : DataW.Trod enc P W 0 (fun _ => true) true t v x ps) : ∃ a : α, d.K W a v.cells.toList ∧ wf a := by
  obtain ⟨fuel, hf⟩ := hx
  refine h H enc fuel _ (x, ps) hf (fun n hn => ?_)
  have := List.all_eq_true.1 hsz n (DataW.weights_mem_each ht hd n hn)
  simpa using this
end
end Go.Proofs.Ytgiofigjnchfeaa.Q
