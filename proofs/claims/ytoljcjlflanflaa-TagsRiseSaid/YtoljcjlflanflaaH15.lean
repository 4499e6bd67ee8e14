/- tags.Find: what it computes, and that its call does so. -/
import Derived.Test.YtoljcjlflanflaaH22
namespace Go.Proofs.Ytoljcjlflanflaa.Q
open Go.RowKit Go.Proofs.YtoljcjlflanflaaW.PrintWords Go.Proofs.YtoljcjlflanflaaW.PrintLast Go.Proofs.YtoljcjlflanflaaW.PrintMore
set_option linter.unusedVariables false
set_option linter.unusedSimpArgs false

def tags_Find.f (a0_0 a0_1 : Int) (l0_2 : List S47) (a1 : Int) : Option (Int × Bool) :=
  if placeIs l0_2 a1 = true then some ((rd_T47 l0_2 (bsI l0_2 a1 : Int)).f1, true) else some (0, false)

theorem placeIs_lt {l : List S47} {n : Int} (h : placeIs l n = true) : bsI l n < l.length := by
  unfold placeIs at h
  have := (Bool.and_eq_true_iff.1 h).1
  exact of_decide_eq_true this

set_option maxHeartbeats 8000000 in
set_option maxRecDepth 100000 in
theorem tags_Find.calls (a0_0 : Int) (a0_1 : Int) (A0_2 : Option Addr) (c0_2 : Nat) (l0_2 : List S47) (a1 : Int) (r1 : Int) (r2 : Bool) (w : World) (hr0_2 : Kd.C k47 w A0_2 l0_2.length l0_2) (hc0_2 : l0_2.length ≤ c0_2) (h : tags_Find.f a0_0 a0_1 l0_2 a1 = some (r1, r2)) :
    Calls Try.prog 15 #[.agg #[.int .u64 a0_0, .int .u64 a0_1, .slice A0_2 l0_2.length c0_2], .int .u64 a1] w fun e w' => e = .returned (.tuple #[.int .u64 r1, .bool r2]) ∧ Below w.heap.size w w' := by
  have hu25 := Try.underlying25
  have hu47 := Try.underlying47
  have HC := Aside0.mk hr0_2
  have HP := Aside0.mk (tags_place.calls a0_0 a0_1 A0_2 c0_2 l0_2 a1)
  cases hp : placeIs l0_2 a1 with
  | true =>
    have hlt := placeIs_lt hp
    unfold tags_Find.f at h
    rw [if_pos hp] at h
    obtain ⟨h1, h2⟩ := Prod.mk.inj (Option.some.inj h)
    subst h2
    rw [hp] at HP
    generalize bsI l0_2 a1 = i at HP hlt h1
    have hltz : (i : Int) < (l0_2.length : Int) := by omega
    have hi0 : (0 : Int) ≤ (i : Int) := by omega
    clear hr0_2 h hp
    go_enter Try.func15, Try.ntmps15
    go_wp2_with (first | ((with_reducible refine gate_dst (N := 2) rfl ?_); refine box_event ?hg (N := 2) ?hd (cs := #[.int .u64 a0_0, .int .u64 a0_1, .slice A0_2 l0_2.length c0_2]) (t := 25) ?hr ?_; (case hd => rfl); (case hg => rfl); (case hr => first | (go_simp; done) | (go_simp; rfl)); intro gb101 hg w4 hbox hb; clear hg; have hcz0 : w4.cell? ⟨gb101, 0, none⟩ = some (.int .u64 a0_0) := (blk_cell hbox 0).trans rfl; have hcz1 : w4.cell? ⟨gb101, 1, none⟩ = some (.int .u64 a0_1) := (blk_cell hbox 1).trans rfl; have hcz2 : w4.cell? ⟨gb101, 2, none⟩ = some (.slice A0_2 l0_2.length c0_2) := (blk_cell hbox 2).trans rfl; have HBX := Aside0.mk hbox; have HB := Aside0.mk hb; clear hbox hb) | (go_at_call 18; refine (HP.out _ (Kd.C_below HC.out HB.out)).mono ?_; rintro e w5 ⟨rfl, hb2⟩; have hcy2 : w5.cell? ⟨gb101, 2, none⟩ = some (.slice A0_2 l0_2.length c0_2) := (blk_cell (blk_below HBX.out hb2) 2).trans rfl; have HB2 := Aside0.mk (HB.out.trans (hb2.mono HB.out.size)); clear hb2; obtain ⟨ad, e1, hx0, hx1⟩ := at_T47 (Kd.C_below HC.out HB2.out) (i : Int) hi0 hltz; cases e1; rw [Int.toNat_natCast] at hx0 hx1))
    go_ret2
    refine ⟨?_, HB2.out⟩
    rw [← h1]
    rfl
  | false =>
    unfold tags_Find.f at h
    rw [if_neg (by rw [hp]; simp)] at h
    obtain ⟨h1, h2⟩ := Prod.mk.inj (Option.some.inj h)
    subst h1 h2
    rw [hp] at HP
    generalize bsI l0_2 a1 = i at HP
    clear hr0_2 h hp
    go_enter Try.func15, Try.ntmps15
    go_wp2_with (first | ((with_reducible refine gate_dst (N := 2) rfl ?_); refine box_event ?hg (N := 2) ?hd (cs := #[.int .u64 a0_0, .int .u64 a0_1, .slice A0_2 l0_2.length c0_2]) (t := 25) ?hr ?_; (case hd => rfl); (case hg => rfl); (case hr => first | (go_simp; done) | (go_simp; rfl)); intro gb101 hg w4 hbox hb; clear hg; have hcz0 : w4.cell? ⟨gb101, 0, none⟩ = some (.int .u64 a0_0) := (blk_cell hbox 0).trans rfl; have hcz1 : w4.cell? ⟨gb101, 1, none⟩ = some (.int .u64 a0_1) := (blk_cell hbox 1).trans rfl; have hcz2 : w4.cell? ⟨gb101, 2, none⟩ = some (.slice A0_2 l0_2.length c0_2) := (blk_cell hbox 2).trans rfl; have HB := Aside0.mk hb; clear hbox hb) | (go_at_call 18; refine (HP.out _ (Kd.C_below HC.out HB.out)).mono ?_; rintro e w5 ⟨rfl, hb2⟩; have HB2 := Aside0.mk (HB.out.trans (hb2.mono HB.out.size)); clear hb2))
    go_ret2
    exact ⟨rfl, HB2.out⟩
end Go.Proofs.Ytoljcjlflanflaa.Q
