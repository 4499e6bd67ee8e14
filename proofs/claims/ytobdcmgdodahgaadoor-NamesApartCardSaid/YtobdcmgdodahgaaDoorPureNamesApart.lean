/- The plain law of NamesApart. -/
import Derived.Test.YtobdcmgdodahgaaDoorL18
import Derived.Test.YtobdcmgdodahgaaDoorH9
import Derived.Test.YtobdcmgdodahgaaDoorQ4
namespace Go.Proofs.YtobdcmgdodahgaaDoor.Pure
open Go.RowKit Go.Proofs.YtobdcmgdodahgaaDoor.Q Go.Proofs.YtobdcmgdodahgaaDoorW.PrintWords Go.Proofs.YtobdcmgdodahgaaDoorW.PrintLast Go.Proofs.YtobdcmgdodahgaaDoorW.PrintMore
set_option linter.unusedVariables false
set_option linter.unusedSimpArgs false

theorem NamesApart (a0_0 : Int) (w0 : (Lit.int .i64 a0_0).wf = true) (a0_1 : ByteArray) (w1 : a0_1.size ≤ 140737488351232) (a0_2 : Int) (w2 : (Lit.int .i64 a0_2).wf = true) (a0_3 : ByteArray) (w3 : a0_3.size ≤ 140737488351232) : interchangelaw17_NamesApart.f a0_0 a0_1 a0_2 a0_3 = some true := by
  have h0 := i64_wf w0
  have h2 := i64_wf w2
  unfold interchangelaw17_NamesApart.f
  rw [interchangelaw17_shown_true, Option.bind_some, up_val a0_0 a0_1 h0.2 w1, Option.bind_some, up_val a0_2 a0_3 h2.2 w3, Option.bind_some]
  obtain ⟨u, e, hu⟩ : ∃ u e, upR a0_0 a0_1 = (u, e) := ⟨_, _, rfl⟩
  obtain ⟨v, f, hv⟩ : ∃ v f, upR a0_2 a0_3 = (v, f) := ⟨_, _, rfl⟩
  rw [hu, hv]
  by_cases he : e = 0
  · subst he
    obtain ⟨rfl, hn1, hs1, hw1⟩ := upR_ok hu
    have hsz : some (decide (((upS a0_0 a0_1).size : Int) ≤ 255)) = some true := by
      rw [decide_eq_true (by omega)]
    show (if (0 : Int) = 0 then _ else _) = _
    rw [if_pos rfl]
    by_cases hf : f = 0
    · subst hf
      obtain ⟨rfl, hn2, hs2, hw2⟩ := upR_ok hv
      show (if (0 : Int) = 0 then _ else _) = _
      rw [if_pos rfl]
      have key := upS_apart (a := a0_0) (b := a0_2) (s := a0_1) (t := a0_3) (by omega) (by omega)
      by_cases hab : a0_0 = a0_2
      · rw [if_pos hab, if_pos]
        · exact hsz
        · rw [beq_iff_eq, Bool.eq_iff_iff, beq_iff_eq, beq_iff_eq, tl_inj, tl_inj, key]
          exact ⟨fun h => h.2, fun h => ⟨hab, h⟩⟩
      · rw [if_neg hab, if_pos]
        · exact hsz
        · rw [beq_iff_eq, Bool.eq_false_iff, ne_eq, beq_iff_eq, tl_inj, key]
          exact fun h => hab h.1
    · show (if f = 0 then _ else _) = _
      rw [if_neg hf]
      exact hsz
  · show (if e = 0 then _ else _) = _
    rw [if_neg he]
end Go.Proofs.YtobdcmgdodahgaaDoor.Pure
