/-
  No cell of these rows narrows 'for every input' (looked for: loops, veiled, ifaces, maps, wideKeys, modest, calm, conditions, laid).
  DERIVED. THE GIVEN ROWS OF THIS SEAT. 6 by the template 'for every input the law returns true; each argument reads behind the call as it read before'; 0 by the template 'total and deterministic' (their statements: YtngbkagamhakiaaTotals.lean).
  GIVEN WITH THE SEED: the statements are not yours to turn. If you find one false, say at which input.
  Laid BY PROGRAM, IN A SANDBOX (cutbox-rows.mjs): the forced cells as the released guide's own fill.sh prints them over the translation 75c6bd74cfc48525… (all of the seat's roots in one cut). By AI agents, Wed Nov 11 2026. No macro, syntax, notation, axiom, sorry.
-/
import Derived.Test.YtngbkagamhakiaaChecked
import GoSem.Claim
import GoSem.ClaimJoined
import GoSem.ClaimMapViews
import Derived.JoinedTies
import Derived.KernelRfl
namespace Go.Proofs.Ytngbkagamhakiaa
/- THE CELL 'sum', in the pinned program and in every row, IS THE sha256 OF THE DUMP (.gsa) THAT YtngbkagamhakiaaProg.lean LOADS. Nothing in Lean hashes anything: it is a label: what it is worth is what the hold of that sum in a sandbox is worth. -/
noncomputable def Try.pinned : Pinned := { name := "ytngbkagamhakiaa", sum := "75c6bd74cfc48525137b14a0b6abb089085e3087338a06a697d02e9edc857872", checked := Try.checked }
namespace Rows
def none {H : Type} : Left H := { results := [], args := [] }

/-- 'interchangelaw16.SeqRises': WHATEVER THE INPUT: true; the input reads as it did. -/
def seqRisesSpec : ChangeSpec := { name := "seqRises", fn := fun _ => fun
  | [d1, d2, d3] => { results := [.lit (.bool true)], args := [d1, d2, d3] }
  | _ => none }
def seqRisesRow : OpenClaim := { program := "ytngbkagamhakiaa", sum := "75c6bd74cfc48525137b14a0b6abb089085e3087338a06a697d02e9edc857872", func := "interchange/interchangelaw16.SeqRises", spec := "seqRises", unfollowed := true, recurses := true, apart := false }
def SeqRisesSaid : Prop := seqRisesRow.holds Try.pinned (OpenSpec.ofChange seqRisesSpec)

/-- ITS FALSE NEIGHBOUR: 'it returns false'. Refute it at one input. -/
def seqRisesWrong : ChangeSpec := { name := "seqRises", fn := fun _ => fun
  | [d1, d2, d3] => { results := [.lit (.bool false)], args := [d1, d2, d3] }
  | _ => none }
def SeqRisesWrongFalsely : Prop := seqRisesRow.holds Try.pinned (OpenSpec.ofChange seqRisesWrong)

/-- 'interchangelaw16.SeqOnce': WHATEVER THE INPUT: true; the input reads as it did. -/
def seqOnceSpec : ChangeSpec := { name := "seqOnce", fn := fun _ => fun
  | [d] => { results := [.lit (.bool true)], args := [d] }
  | _ => none }
def seqOnceRow : OpenClaim := { program := "ytngbkagamhakiaa", sum := "75c6bd74cfc48525137b14a0b6abb089085e3087338a06a697d02e9edc857872", func := "interchange/interchangelaw16.SeqOnce", spec := "seqOnce", unfollowed := true, recurses := true, apart := false }
def SeqOnceSaid : Prop := seqOnceRow.holds Try.pinned (OpenSpec.ofChange seqOnceSpec)

/-- ITS FALSE NEIGHBOUR: 'it returns false'. Refute it at one input. -/
def seqOnceWrong : ChangeSpec := { name := "seqOnce", fn := fun _ => fun
  | [d] => { results := [.lit (.bool false)], args := [d] }
  | _ => none }
def SeqOnceWrongFalsely : Prop := seqOnceRow.holds Try.pinned (OpenSpec.ofChange seqOnceWrong)

/-- 'interchangelaw16.SeqAnswers': WHATEVER THE INPUT: true; the input reads as it did. -/
def seqAnswersSpec : ChangeSpec := { name := "seqAnswers", fn := fun _ => fun
  | [d1, d2, d3] => { results := [.lit (.bool true)], args := [d1, d2, d3] }
  | _ => none }
def seqAnswersRow : OpenClaim := { program := "ytngbkagamhakiaa", sum := "75c6bd74cfc48525137b14a0b6abb089085e3087338a06a697d02e9edc857872", func := "interchange/interchangelaw16.SeqAnswers", spec := "seqAnswers", unfollowed := true, recurses := true, apart := false }
def SeqAnswersSaid : Prop := seqAnswersRow.holds Try.pinned (OpenSpec.ofChange seqAnswersSpec)

/-- ITS FALSE NEIGHBOUR: 'it returns false'. Refute it at one input. -/
def seqAnswersWrong : ChangeSpec := { name := "seqAnswers", fn := fun _ => fun
  | [d1, d2, d3] => { results := [.lit (.bool false)], args := [d1, d2, d3] }
  | _ => none }
def SeqAnswersWrongFalsely : Prop := seqAnswersRow.holds Try.pinned (OpenSpec.ofChange seqAnswersWrong)

/-- 'interchangelaw16.SeqOff': WHATEVER THE INPUT: true; the input reads as it did. -/
def seqOffSpec : ChangeSpec := { name := "seqOff", fn := fun _ => fun
  | [d] => { results := [.lit (.bool true)], args := [d] }
  | _ => none }
def seqOffRow : OpenClaim := { program := "ytngbkagamhakiaa", sum := "75c6bd74cfc48525137b14a0b6abb089085e3087338a06a697d02e9edc857872", func := "interchange/interchangelaw16.SeqOff", spec := "seqOff", unfollowed := true, recurses := true, apart := false }
def SeqOffSaid : Prop := seqOffRow.holds Try.pinned (OpenSpec.ofChange seqOffSpec)

/-- ITS FALSE NEIGHBOUR: 'it returns false'. Refute it at one input. -/
def seqOffWrong : ChangeSpec := { name := "seqOff", fn := fun _ => fun
  | [d] => { results := [.lit (.bool false)], args := [d] }
  | _ => none }
def SeqOffWrongFalsely : Prop := seqOffRow.holds Try.pinned (OpenSpec.ofChange seqOffWrong)

/-- 'interchangelaw16.SeqMany': WHATEVER THE INPUT: true; the input reads as it did. -/
def seqManySpec : ChangeSpec := { name := "seqMany", fn := fun _ => fun
  | [d1, d2] => { results := [.lit (.bool true)], args := [d1, d2] }
  | _ => none }
def seqManyRow : OpenClaim := { program := "ytngbkagamhakiaa", sum := "75c6bd74cfc48525137b14a0b6abb089085e3087338a06a697d02e9edc857872", func := "interchange/interchangelaw16.SeqMany", spec := "seqMany", unfollowed := true, recurses := true, apart := false }
def SeqManySaid : Prop := seqManyRow.holds Try.pinned (OpenSpec.ofChange seqManySpec)

/-- ITS FALSE NEIGHBOUR: 'it returns false'. Refute it at one input. -/
def seqManyWrong : ChangeSpec := { name := "seqMany", fn := fun _ => fun
  | [d1, d2] => { results := [.lit (.bool false)], args := [d1, d2] }
  | _ => none }
def SeqManyWrongFalsely : Prop := seqManyRow.holds Try.pinned (OpenSpec.ofChange seqManyWrong)

/-- 'interchangelaw16.SeqFull': WHATEVER THE INPUT: true; the input reads as it did. -/
def seqFullSpec : ChangeSpec := { name := "seqFull", fn := fun _ => fun
  | [d1, d2] => { results := [.lit (.bool true)], args := [d1, d2] }
  | _ => none }
def seqFullRow : OpenClaim := { program := "ytngbkagamhakiaa", sum := "75c6bd74cfc48525137b14a0b6abb089085e3087338a06a697d02e9edc857872", func := "interchange/interchangelaw16.SeqFull", spec := "seqFull", unfollowed := true, recurses := true, apart := false }
def SeqFullSaid : Prop := seqFullRow.holds Try.pinned (OpenSpec.ofChange seqFullSpec)

/-- ITS FALSE NEIGHBOUR: 'it returns false'. Refute it at one input. -/
def seqFullWrong : ChangeSpec := { name := "seqFull", fn := fun _ => fun
  | [d1, d2] => { results := [.lit (.bool false)], args := [d1, d2] }
  | _ => none }
def SeqFullWrongFalsely : Prop := seqFullRow.holds Try.pinned (OpenSpec.ofChange seqFullWrong)

/- THE SECOND FORM. 'bulk': how many values and letters a reading holds, each counted each time it is reached (what is shared counts as often as it is met; a slice's spare places count too). A statement '..UptoSaid' is the law's where the arguments, and the package variables that the reading takes, are together of bulk at most 1048576: NARROWER than '..Said'. Prove '..Said' where nothing that the law and all that it calls make is longer than what came in: it says more and counts as full. Else prove '..UptoSaid'. A law counts once. -/
mutual
def uptoBulk {H : Type} : DataW H → Nat
  | .lit (.string bytes) => bytes.length + 1
  | .lit _ => 1
  | .nil => 1
  | .ptr d => uptoBulk d + 1
  | .slice elems spare => uptoBulkAll elems + uptoBulkAll spare + 1
  | .agg parts => uptoBulkAll parts + 1
  | .iface _ d => uptoBulk d + 1
  | .map entries => uptoBulkEntries entries + 1
  | .held _ => 1
def uptoBulkAll {H : Type} : List (DataW H) → Nat
  | [] => 0
  | d :: r => uptoBulk d + uptoBulkAll r
def uptoBulkEntries {H : Type} : List (Lit × DataW H) → Nat
  | [] => 0
  | x :: r => uptoBulkEntry x + uptoBulkEntries r
def uptoBulkEntry {H : Type} : Lit × DataW H → Nat
  | (.string bytes, d) => bytes.length + uptoBulk d + 1
  | (_, d) => uptoBulk d + 1
 end
def uptoSmall : (H : Type) → List (DataW H) → Bool := fun _ ds => decide (uptoBulkAll ds ≤ 1048576)
def OpenSpec.upto (s : _root_.Go.ChangeSpec) : _root_.Go.OpenSpec := { _root_.Go.OpenSpec.ofChange s with cond := some uptoSmall }

/-- 'interchangelaw16.SeqRises', WHERE WHAT IT READS IS OF BULK AT MOST 1048576: true; the input reads as it did. -/
def seqRisesUptoRow : OpenClaim := { program := "ytngbkagamhakiaa", sum := "75c6bd74cfc48525137b14a0b6abb089085e3087338a06a697d02e9edc857872", func := "interchange/interchangelaw16.SeqRises", spec := "seqRises", unfollowed := true, recurses := true, apart := false, narrowed := true }
def SeqRisesUptoSaid : Prop := seqRisesUptoRow.holds Try.pinned (OpenSpec.upto seqRisesSpec)

/-- 'interchangelaw16.SeqOnce', WHERE WHAT IT READS IS OF BULK AT MOST 1048576: true; the input reads as it did. -/
def seqOnceUptoRow : OpenClaim := { program := "ytngbkagamhakiaa", sum := "75c6bd74cfc48525137b14a0b6abb089085e3087338a06a697d02e9edc857872", func := "interchange/interchangelaw16.SeqOnce", spec := "seqOnce", unfollowed := true, recurses := true, apart := false, narrowed := true }
def SeqOnceUptoSaid : Prop := seqOnceUptoRow.holds Try.pinned (OpenSpec.upto seqOnceSpec)

/-- 'interchangelaw16.SeqAnswers', WHERE WHAT IT READS IS OF BULK AT MOST 1048576: true; the input reads as it did. -/
def seqAnswersUptoRow : OpenClaim := { program := "ytngbkagamhakiaa", sum := "75c6bd74cfc48525137b14a0b6abb089085e3087338a06a697d02e9edc857872", func := "interchange/interchangelaw16.SeqAnswers", spec := "seqAnswers", unfollowed := true, recurses := true, apart := false, narrowed := true }
def SeqAnswersUptoSaid : Prop := seqAnswersUptoRow.holds Try.pinned (OpenSpec.upto seqAnswersSpec)

/-- 'interchangelaw16.SeqOff', WHERE WHAT IT READS IS OF BULK AT MOST 1048576: true; the input reads as it did. -/
def seqOffUptoRow : OpenClaim := { program := "ytngbkagamhakiaa", sum := "75c6bd74cfc48525137b14a0b6abb089085e3087338a06a697d02e9edc857872", func := "interchange/interchangelaw16.SeqOff", spec := "seqOff", unfollowed := true, recurses := true, apart := false, narrowed := true }
def SeqOffUptoSaid : Prop := seqOffUptoRow.holds Try.pinned (OpenSpec.upto seqOffSpec)

/-- 'interchangelaw16.SeqMany', WHERE WHAT IT READS IS OF BULK AT MOST 1048576: true; the input reads as it did. -/
def seqManyUptoRow : OpenClaim := { program := "ytngbkagamhakiaa", sum := "75c6bd74cfc48525137b14a0b6abb089085e3087338a06a697d02e9edc857872", func := "interchange/interchangelaw16.SeqMany", spec := "seqMany", unfollowed := true, recurses := true, apart := false, narrowed := true }
def SeqManyUptoSaid : Prop := seqManyUptoRow.holds Try.pinned (OpenSpec.upto seqManySpec)

/-- 'interchangelaw16.SeqFull', WHERE WHAT IT READS IS OF BULK AT MOST 1048576: true; the input reads as it did. -/
def seqFullUptoRow : OpenClaim := { program := "ytngbkagamhakiaa", sum := "75c6bd74cfc48525137b14a0b6abb089085e3087338a06a697d02e9edc857872", func := "interchange/interchangelaw16.SeqFull", spec := "seqFull", unfollowed := true, recurses := true, apart := false, narrowed := true }
def SeqFullUptoSaid : Prop := seqFullUptoRow.holds Try.pinned (OpenSpec.upto seqFullSpec)

end Rows
end Go.Proofs.Ytngbkagamhakiaa
