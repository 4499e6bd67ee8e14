/-
  No cell of these rows narrows 'for every input' (looked for: loops, veiled, ifaces, maps, wideKeys, modest, calm, conditions, laid).
  DERIVED. THE GIVEN ROWS OF THIS SEAT. 6 by the template 'for every input the law returns true; each argument reads behind the call as it read before'; 0 by the template 'total and deterministic' (their statements: YtoljcjlflanflaaTotals.lean).
  GIVEN WITH THE SEED: the statements are not yours to turn. If you find one false, say at which input.
  Laid BY PROGRAM, IN A SANDBOX (cutbox-rows.mjs): the forced cells as the released guide's own fill.sh prints them over the translation 8f63f943e0a289da… (all of the seat's roots in one cut). By AI agents, Wed Nov 11 2026. No macro, syntax, notation, axiom, sorry.
-/
import Derived.Test.YtoljcjlflanflaaChecked
import GoSem.Claim
import GoSem.ClaimJoined
import GoSem.ClaimMapViews
import Derived.JoinedTies
import Derived.KernelRfl
namespace Go.Proofs.Ytoljcjlflanflaa
/- THE CELL 'sum', in the pinned program and in every row, IS THE sha256 OF THE DUMP (.gsa) THAT YtoljcjlflanflaaProg.lean LOADS. Nothing in Lean hashes anything: it is a label: what it is worth is what the hold of that sum in a sandbox is worth. -/
noncomputable def Try.pinned : Pinned := { name := "ytoljcjlflanflaa", sum := "8f63f943e0a289da291dab386ce44e8e443ed28ca325503dace8cb0887cb56d7", checked := Try.checked }
namespace Rows
def none {H : Type} : Left H := { results := [], args := [] }

/-- 'interchangelaw15.TagsStay': WHATEVER THE INPUT: true; the input reads as it did. -/
def tagsStaySpec : ChangeSpec := { name := "tagsStay", fn := fun _ => fun
  | [d] => { results := [.lit (.bool true)], args := [d] }
  | _ => none }
def tagsStayRow : OpenClaim := { program := "ytoljcjlflanflaa", sum := "8f63f943e0a289da291dab386ce44e8e443ed28ca325503dace8cb0887cb56d7", func := "interchange/interchangelaw15.TagsStay", spec := "tagsStay", unfollowed := true, recurses := true, apart := false }
def TagsStaySaid : Prop := tagsStayRow.holds Try.pinned (OpenSpec.ofChange tagsStaySpec)

/-- ITS FALSE NEIGHBOUR: 'it returns false'. Refute it at one input. -/
def tagsStayWrong : ChangeSpec := { name := "tagsStay", fn := fun _ => fun
  | [d] => { results := [.lit (.bool false)], args := [d] }
  | _ => none }
def TagsStayWrongFalsely : Prop := tagsStayRow.holds Try.pinned (OpenSpec.ofChange tagsStayWrong)

/-- 'interchangelaw15.TagsFull': WHATEVER THE INPUT: true; the input reads as it did. -/
def tagsFullSpec : ChangeSpec := { name := "tagsFull", fn := fun _ => fun
  | [d1, d2] => { results := [.lit (.bool true)], args := [d1, d2] }
  | _ => none }
def tagsFullRow : OpenClaim := { program := "ytoljcjlflanflaa", sum := "8f63f943e0a289da291dab386ce44e8e443ed28ca325503dace8cb0887cb56d7", func := "interchange/interchangelaw15.TagsFull", spec := "tagsFull", unfollowed := true, recurses := true, apart := false }
def TagsFullSaid : Prop := tagsFullRow.holds Try.pinned (OpenSpec.ofChange tagsFullSpec)

/-- ITS FALSE NEIGHBOUR: 'it returns false'. Refute it at one input. -/
def tagsFullWrong : ChangeSpec := { name := "tagsFull", fn := fun _ => fun
  | [d1, d2] => { results := [.lit (.bool false)], args := [d1, d2] }
  | _ => none }
def TagsFullWrongFalsely : Prop := tagsFullRow.holds Try.pinned (OpenSpec.ofChange tagsFullWrong)

/-- 'interchangelaw15.TagsRise': WHATEVER THE INPUT: true; the input reads as it did. -/
def tagsRiseSpec : ChangeSpec := { name := "tagsRise", fn := fun _ => fun
  | [d1, d2] => { results := [.lit (.bool true)], args := [d1, d2] }
  | _ => none }
def tagsRiseRow : OpenClaim := { program := "ytoljcjlflanflaa", sum := "8f63f943e0a289da291dab386ce44e8e443ed28ca325503dace8cb0887cb56d7", func := "interchange/interchangelaw15.TagsRise", spec := "tagsRise", unfollowed := true, recurses := true, apart := false }
def TagsRiseSaid : Prop := tagsRiseRow.holds Try.pinned (OpenSpec.ofChange tagsRiseSpec)

/-- ITS FALSE NEIGHBOUR: 'it returns false'. Refute it at one input. -/
def tagsRiseWrong : ChangeSpec := { name := "tagsRise", fn := fun _ => fun
  | [d1, d2] => { results := [.lit (.bool false)], args := [d1, d2] }
  | _ => none }
def TagsRiseWrongFalsely : Prop := tagsRiseRow.holds Try.pinned (OpenSpec.ofChange tagsRiseWrong)

/-- 'interchangelaw15.TagsOnce': WHATEVER THE INPUT: true; the input reads as it did. -/
def tagsOnceSpec : ChangeSpec := { name := "tagsOnce", fn := fun _ => fun
  | [d] => { results := [.lit (.bool true)], args := [d] }
  | _ => none }
def tagsOnceRow : OpenClaim := { program := "ytoljcjlflanflaa", sum := "8f63f943e0a289da291dab386ce44e8e443ed28ca325503dace8cb0887cb56d7", func := "interchange/interchangelaw15.TagsOnce", spec := "tagsOnce", unfollowed := true, recurses := true, apart := false }
def TagsOnceSaid : Prop := tagsOnceRow.holds Try.pinned (OpenSpec.ofChange tagsOnceSpec)

/-- ITS FALSE NEIGHBOUR: 'it returns false'. Refute it at one input. -/
def tagsOnceWrong : ChangeSpec := { name := "tagsOnce", fn := fun _ => fun
  | [d] => { results := [.lit (.bool false)], args := [d] }
  | _ => none }
def TagsOnceWrongFalsely : Prop := tagsOnceRow.holds Try.pinned (OpenSpec.ofChange tagsOnceWrong)

/-- 'interchangelaw15.TagsFind': WHATEVER THE INPUT: true; the input reads as it did. -/
def tagsFindSpec : ChangeSpec := { name := "tagsFind", fn := fun _ => fun
  | [d1, d2] => { results := [.lit (.bool true)], args := [d1, d2] }
  | _ => none }
def tagsFindRow : OpenClaim := { program := "ytoljcjlflanflaa", sum := "8f63f943e0a289da291dab386ce44e8e443ed28ca325503dace8cb0887cb56d7", func := "interchange/interchangelaw15.TagsFind", spec := "tagsFind", unfollowed := true, recurses := true, apart := false }
def TagsFindSaid : Prop := tagsFindRow.holds Try.pinned (OpenSpec.ofChange tagsFindSpec)

/-- ITS FALSE NEIGHBOUR: 'it returns false'. Refute it at one input. -/
def tagsFindWrong : ChangeSpec := { name := "tagsFind", fn := fun _ => fun
  | [d1, d2] => { results := [.lit (.bool false)], args := [d1, d2] }
  | _ => none }
def TagsFindWrongFalsely : Prop := tagsFindRow.holds Try.pinned (OpenSpec.ofChange tagsFindWrong)

/-- 'interchangelaw15.TagsMany': WHATEVER THE INPUT: true; the input reads as it did. -/
def tagsManySpec : ChangeSpec := { name := "tagsMany", fn := fun _ => fun
  | [d1, d2] => { results := [.lit (.bool true)], args := [d1, d2] }
  | _ => none }
def tagsManyRow : OpenClaim := { program := "ytoljcjlflanflaa", sum := "8f63f943e0a289da291dab386ce44e8e443ed28ca325503dace8cb0887cb56d7", func := "interchange/interchangelaw15.TagsMany", spec := "tagsMany", unfollowed := true, recurses := true, apart := false }
def TagsManySaid : Prop := tagsManyRow.holds Try.pinned (OpenSpec.ofChange tagsManySpec)

/-- ITS FALSE NEIGHBOUR: 'it returns false'. Refute it at one input. -/
def tagsManyWrong : ChangeSpec := { name := "tagsMany", fn := fun _ => fun
  | [d1, d2] => { results := [.lit (.bool false)], args := [d1, d2] }
  | _ => none }
def TagsManyWrongFalsely : Prop := tagsManyRow.holds Try.pinned (OpenSpec.ofChange tagsManyWrong)

/- THE SECOND FORM. 'bulk': how many values and letters a reading holds, each counted each time it is reached (what is shared counts as often as it is met; a slice's spare places count too). A statement '..UptoSaid' is the law's where the arguments, and the package variables that the reading takes, are together of bulk at most 1048576: NARROWER than '..Said'. Prove '..Said' where nothing that the law and all that it calls make is longer than what came in: it says more and counts as full. Else prove '..UptoSaid'. A law counts once. -/
mutual
def uptoBulk {H : Type} : DataW H → Nat
  | .lit (.string bytes) => bytes.length + 1
  | .lit _ => 1
  | .nil => 1
  | .ptr d => uptoBulk d + 1
  | .slice elems spare => uptoBulkAll elems + uptoBulkAll spare + 1
  | .agg parts => uptoBulkAll parts + 1
  | .iface _ d => uptoBulk d + 1
  | .map entries => uptoBulkEntries entries + 1
  | .held _ => 1
def uptoBulkAll {H : Type} : List (DataW H) → Nat
  | [] => 0
  | d :: r => uptoBulk d + uptoBulkAll r
def uptoBulkEntries {H : Type} : List (Lit × DataW H) → Nat
  | [] => 0
  | x :: r => uptoBulkEntry x + uptoBulkEntries r
def uptoBulkEntry {H : Type} : Lit × DataW H → Nat
  | (.string bytes, d) => bytes.length + uptoBulk d + 1
  | (_, d) => uptoBulk d + 1
 end
def uptoSmall : (H : Type) → List (DataW H) → Bool := fun _ ds => decide (uptoBulkAll ds ≤ 1048576)
def OpenSpec.upto (s : _root_.Go.ChangeSpec) : _root_.Go.OpenSpec := { _root_.Go.OpenSpec.ofChange s with cond := some uptoSmall }

/-- 'interchangelaw15.TagsStay', WHERE WHAT IT READS IS OF BULK AT MOST 1048576: true; the input reads as it did. -/
def tagsStayUptoRow : OpenClaim := { program := "ytoljcjlflanflaa", sum := "8f63f943e0a289da291dab386ce44e8e443ed28ca325503dace8cb0887cb56d7", func := "interchange/interchangelaw15.TagsStay", spec := "tagsStay", unfollowed := true, recurses := true, apart := false, narrowed := true }
def TagsStayUptoSaid : Prop := tagsStayUptoRow.holds Try.pinned (OpenSpec.upto tagsStaySpec)

/-- 'interchangelaw15.TagsFull', WHERE WHAT IT READS IS OF BULK AT MOST 1048576: true; the input reads as it did. -/
def tagsFullUptoRow : OpenClaim := { program := "ytoljcjlflanflaa", sum := "8f63f943e0a289da291dab386ce44e8e443ed28ca325503dace8cb0887cb56d7", func := "interchange/interchangelaw15.TagsFull", spec := "tagsFull", unfollowed := true, recurses := true, apart := false, narrowed := true }
def TagsFullUptoSaid : Prop := tagsFullUptoRow.holds Try.pinned (OpenSpec.upto tagsFullSpec)

/-- 'interchangelaw15.TagsRise', WHERE WHAT IT READS IS OF BULK AT MOST 1048576: true; the input reads as it did. -/
def tagsRiseUptoRow : OpenClaim := { program := "ytoljcjlflanflaa", sum := "8f63f943e0a289da291dab386ce44e8e443ed28ca325503dace8cb0887cb56d7", func := "interchange/interchangelaw15.TagsRise", spec := "tagsRise", unfollowed := true, recurses := true, apart := false, narrowed := true }
def TagsRiseUptoSaid : Prop := tagsRiseUptoRow.holds Try.pinned (OpenSpec.upto tagsRiseSpec)

/-- 'interchangelaw15.TagsOnce', WHERE WHAT IT READS IS OF BULK AT MOST 1048576: true; the input reads as it did. -/
def tagsOnceUptoRow : OpenClaim := { program := "ytoljcjlflanflaa", sum := "8f63f943e0a289da291dab386ce44e8e443ed28ca325503dace8cb0887cb56d7", func := "interchange/interchangelaw15.TagsOnce", spec := "tagsOnce", unfollowed := true, recurses := true, apart := false, narrowed := true }
def TagsOnceUptoSaid : Prop := tagsOnceUptoRow.holds Try.pinned (OpenSpec.upto tagsOnceSpec)

/-- 'interchangelaw15.TagsFind', WHERE WHAT IT READS IS OF BULK AT MOST 1048576: true; the input reads as it did. -/
def tagsFindUptoRow : OpenClaim := { program := "ytoljcjlflanflaa", sum := "8f63f943e0a289da291dab386ce44e8e443ed28ca325503dace8cb0887cb56d7", func := "interchange/interchangelaw15.TagsFind", spec := "tagsFind", unfollowed := true, recurses := true, apart := false, narrowed := true }
def TagsFindUptoSaid : Prop := tagsFindUptoRow.holds Try.pinned (OpenSpec.upto tagsFindSpec)

/-- 'interchangelaw15.TagsMany', WHERE WHAT IT READS IS OF BULK AT MOST 1048576: true; the input reads as it did. -/
def tagsManyUptoRow : OpenClaim := { program := "ytoljcjlflanflaa", sum := "8f63f943e0a289da291dab386ce44e8e443ed28ca325503dace8cb0887cb56d7", func := "interchange/interchangelaw15.TagsMany", spec := "tagsMany", unfollowed := true, recurses := true, apart := false, narrowed := true }
def TagsManyUptoSaid : Prop := tagsManyUptoRow.holds Try.pinned (OpenSpec.upto tagsManySpec)

end Rows
end Go.Proofs.Ytoljcjlflanflaa
