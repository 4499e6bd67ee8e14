/- Plain laws of chapter 12: beats. -/
import Derived.Test.YteomnodigfcfeaaQ21
import Derived.Test.YteomnodigfcfeaaQ22
import Derived.Test.YteomnodigfcfeaaQ23
import Derived.Test.YteomnodigfcfeaaQ24
import Derived.Test.YteomnodigfcfeaaH10
namespace Go.Proofs.Yteomnodigfcfeaa.Q
open Go.RowKit Go.Proofs.Yteomnodigfcfeaa.Q Go.Proofs.YteomnodigfcfeaaW.PrintWords Go.Proofs.YteomnodigfcfeaaW.PrintLast Go.Proofs.YteomnodigfcfeaaW.PrintMore
set_option linter.unusedVariables false
set_option linter.unusedSimpArgs false

theorem i64_wf {a : Int} (h : (Lit.int .i64 a).wf = true) : -9223372036854775808 ≤ a ∧ a ≤ 9223372036854775807 := by
  simp [Lit.wf, IntKind.min, IntKind.max, IntKind.bits, IntKind.signed] at h
  omega
theorem w64 {x : Int} (h : -9223372036854775808 ≤ x ∧ x ≤ 9223372036854775807) : wrap64 x = x := by unfold wrap64; omega
def tm (x : Int) : Int := mn (mx x 0) 1099511627776
def ev (x : Int) : Int := mn (mx x 0) 65535
theorem tm_cases (x : Int) : (x < 0 ∧ tm x = 0) ∨ (0 ≤ x ∧ x ≤ 1099511627776 ∧ tm x = x) ∨ (1099511627776 < x ∧ tm x = 1099511627776) := by
  unfold tm mn mx
  split <;> split <;> omega
theorem ev_cases (x : Int) : (x < 0 ∧ ev x = 0) ∨ (0 ≤ x ∧ x ≤ 65535 ∧ ev x = x) ∨ (65535 < x ∧ ev x = 65535) := by
  unfold ev mn mx
  split <;> split <;> omega
theorem tm_range (x : Int) : 0 ≤ tm x ∧ tm x ≤ 1099511627776 := by have := tm_cases x; omega
theorem ev_range (x : Int) : 0 ≤ ev x ∧ ev x ≤ 65535 := by have := ev_cases x; omega
theorem tm_of {x : Int} (h : 0 ≤ x ∧ x ≤ 1099511627776) : tm x = x := by have := tm_cases x; omega
theorem ev_of {x : Int} (h : 0 ≤ x ∧ x ≤ 65535) : ev x = x := by have := ev_cases x; omega
theorem plain_ok (e i o : Int) : beat_plain.f e i o = some (ev e, tm i, tm o) := rfl
theorem tick_ok (e i o n : Int) : beat_Tick.f e i o n = some (ev e, tm i, if ev e > 0 ∧ tm o + ev e ≤ tm n then tm n else tm o, decide (ev e > 0 ∧ tm o + ev e ≤ tm n), decide (ev e > 0 ∧ tm i + 2 * ev e ≤ tm n)) := by
  have h1 := ev_range e
  have h2 := tm_range i
  have h3 := tm_range o
  have e1 : wrap64 (tm o + ev e) = tm o + ev e := w64 (by omega)
  have e2 : wrap64 (2 * ev e) = 2 * ev e := w64 (by omega)
  have e3 : wrap64 (tm i + 2 * ev e) = tm i + 2 * ev e := w64 (by omega)
  unfold beat_Tick.f
  rw [plain_ok]
  rw [show beat_time.f n = some (tm n) from rfl]
  simp only [Option.bind_some, e1, e2, e3]
  by_cases c : ev e > 0
  · rw [if_pos c]
    by_cases d : tm o + ev e ≤ tm n
    · rw [if_pos d]; simp [c, d]
    · rw [if_neg d]; simp [c, d]
  · rw [if_neg c]; simp [c]
theorem when_ok (e i o : Int) : beat_When.f e i o = some (if ev e = 0 then (0, false) else (mn (tm o + ev e) (tm i + 2 * ev e), true)) := by
  have h1 := ev_range e
  have h2 := tm_range i
  have h3 := tm_range o
  have e1 : wrap64 (tm o + ev e) = tm o + ev e := w64 (by omega)
  have e2 : wrap64 (2 * ev e) = 2 * ev e := w64 (by omega)
  have e3 : wrap64 (tm i + 2 * ev e) = tm i + 2 * ev e := w64 (by omega)
  unfold beat_When.f
  rw [plain_ok]
  simp only [Option.bind_some, e1, e2, e3]
  by_cases c : ev e = 0
  · rw [if_pos c, if_pos c]
  · rw [if_neg c, if_neg c]
theorem got_ok (e i o n : Int) : beat_Got.f e i o n = some (ev e, mx (tm i) (tm n), tm o) := rfl
theorem sent_ok (e i o n : Int) : beat_Sent.f e i o n = some (ev e, tm i, mx (tm o) (tm n)) := rfl
theorem mx_cases (a b : Int) : (a ≤ b ∧ mx a b = b) ∨ (b ≤ a ∧ mx a b = a) := by unfold mx; split <;> omega
theorem mn_cases (a b : Int) : (a ≤ b ∧ mn a b = a) ∨ (b ≤ a ∧ mn a b = b) := by unfold mn; split <;> omega
end Go.Proofs.Yteomnodigfcfeaa.Q
