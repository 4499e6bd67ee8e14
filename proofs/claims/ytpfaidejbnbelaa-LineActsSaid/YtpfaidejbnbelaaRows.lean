/-
  No cell of these rows narrows 'for every input' (looked for: loops, veiled, ifaces, maps, wideKeys, modest, calm, conditions, laid).
  DERIVED. THE GIVEN ROWS OF THIS SEAT. 6 by the template 'for every input the law returns true; each argument reads behind the call as it read before'; 0 by the template 'total and deterministic' (their statements: YtpfaidejbnbelaaTotals.lean).
  GIVEN WITH THE SEED: the statements are not yours to turn. If you find one false, say at which input.
  Laid BY PROGRAM, IN A SANDBOX (cutbox-rows.mjs): the forced cells as the released guide's own fill.sh prints them over the translation c1062c17e4508e07… (all of the seat's roots in one cut). By AI agents, Wed Nov 11 2026. No macro, syntax, notation, axiom, sorry.
-/
import Derived.Test.YtpfaidejbnbelaaChecked
import GoSem.Claim
import GoSem.ClaimJoined
import GoSem.ClaimMapViews
import Derived.JoinedTies
import Derived.KernelRfl
namespace Go.Proofs.Ytpfaidejbnbelaa
/- THE CELL 'sum', in the pinned program and in every row, IS THE sha256 OF THE DUMP (.gsa) THAT YtpfaidejbnbelaaProg.lean LOADS. Nothing in Lean hashes anything: it is a label: what it is worth is what the hold of that sum in a sandbox is worth. -/
noncomputable def Try.pinned : Pinned := { name := "ytpfaidejbnbelaa", sum := "c1062c17e4508e07df560712e1bbafab2ce663ed7cadbc50c0d1e8bc490ffcc6", checked := Try.checked }
namespace Rows
def none {H : Type} : Left H := { results := [], args := [] }

/-- 'interchangelaw14.LineDrops': WHATEVER THE INPUT: true; the input reads as it did. -/
def lineDropsSpec : ChangeSpec := { name := "lineDrops", fn := fun _ => fun
  | [d1, d2, d3] => { results := [.lit (.bool true)], args := [d1, d2, d3] }
  | _ => none }
def lineDropsRow : OpenClaim := { program := "ytpfaidejbnbelaa", sum := "c1062c17e4508e07df560712e1bbafab2ce663ed7cadbc50c0d1e8bc490ffcc6", func := "interchange/interchangelaw14.LineDrops", spec := "lineDrops", unfollowed := true, recurses := true, apart := false }
def LineDropsSaid : Prop := lineDropsRow.holds Try.pinned (OpenSpec.ofChange lineDropsSpec)

/-- ITS FALSE NEIGHBOUR: 'it returns false'. Refute it at one input. -/
def lineDropsWrong : ChangeSpec := { name := "lineDrops", fn := fun _ => fun
  | [d1, d2, d3] => { results := [.lit (.bool false)], args := [d1, d2, d3] }
  | _ => none }
def LineDropsWrongFalsely : Prop := lineDropsRow.holds Try.pinned (OpenSpec.ofChange lineDropsWrong)

/-- 'interchangelaw14.LineFull': WHATEVER THE INPUT: true; the input reads as it did. -/
def lineFullSpec : ChangeSpec := { name := "lineFull", fn := fun _ => fun
  | [d1, d2, d3] => { results := [.lit (.bool true)], args := [d1, d2, d3] }
  | _ => none }
def lineFullRow : OpenClaim := { program := "ytpfaidejbnbelaa", sum := "c1062c17e4508e07df560712e1bbafab2ce663ed7cadbc50c0d1e8bc490ffcc6", func := "interchange/interchangelaw14.LineFull", spec := "lineFull", unfollowed := true, recurses := true, apart := false }
def LineFullSaid : Prop := lineFullRow.holds Try.pinned (OpenSpec.ofChange lineFullSpec)

/-- ITS FALSE NEIGHBOUR: 'it returns false'. Refute it at one input. -/
def lineFullWrong : ChangeSpec := { name := "lineFull", fn := fun _ => fun
  | [d1, d2, d3] => { results := [.lit (.bool false)], args := [d1, d2, d3] }
  | _ => none }
def LineFullWrongFalsely : Prop := lineFullRow.holds Try.pinned (OpenSpec.ofChange lineFullWrong)

/-- 'interchangelaw14.LineFirst': WHATEVER THE INPUT: true; the input reads as it did. -/
def lineFirstSpec : ChangeSpec := { name := "lineFirst", fn := fun _ => fun
  | [d1, d2] => { results := [.lit (.bool true)], args := [d1, d2] }
  | _ => none }
def lineFirstRow : OpenClaim := { program := "ytpfaidejbnbelaa", sum := "c1062c17e4508e07df560712e1bbafab2ce663ed7cadbc50c0d1e8bc490ffcc6", func := "interchange/interchangelaw14.LineFirst", spec := "lineFirst", unfollowed := true, recurses := true, apart := false }
def LineFirstSaid : Prop := lineFirstRow.holds Try.pinned (OpenSpec.ofChange lineFirstSpec)

/-- ITS FALSE NEIGHBOUR: 'it returns false'. Refute it at one input. -/
def lineFirstWrong : ChangeSpec := { name := "lineFirst", fn := fun _ => fun
  | [d1, d2] => { results := [.lit (.bool false)], args := [d1, d2] }
  | _ => none }
def LineFirstWrongFalsely : Prop := lineFirstRow.holds Try.pinned (OpenSpec.ofChange lineFirstWrong)

/-- 'interchangelaw14.LineActs': WHATEVER THE INPUT: true; the input reads as it did. -/
def lineActsSpec : ChangeSpec := { name := "lineActs", fn := fun _ => fun
  | [d] => { results := [.lit (.bool true)], args := [d] }
  | _ => none }
def lineActsRow : OpenClaim := { program := "ytpfaidejbnbelaa", sum := "c1062c17e4508e07df560712e1bbafab2ce663ed7cadbc50c0d1e8bc490ffcc6", func := "interchange/interchangelaw14.LineActs", spec := "lineActs", unfollowed := true, recurses := true, apart := false }
def LineActsSaid : Prop := lineActsRow.holds Try.pinned (OpenSpec.ofChange lineActsSpec)

/-- ITS FALSE NEIGHBOUR: 'it returns false'. Refute it at one input. -/
def lineActsWrong : ChangeSpec := { name := "lineActs", fn := fun _ => fun
  | [d] => { results := [.lit (.bool false)], args := [d] }
  | _ => none }
def LineActsWrongFalsely : Prop := lineActsRow.holds Try.pinned (OpenSpec.ofChange lineActsWrong)

/-- 'interchangelaw14.LineOrder': WHATEVER THE INPUT: true; the input reads as it did. -/
def lineOrderSpec : ChangeSpec := { name := "lineOrder", fn := fun _ => fun
  | [d1, d2] => { results := [.lit (.bool true)], args := [d1, d2] }
  | _ => none }
def lineOrderRow : OpenClaim := { program := "ytpfaidejbnbelaa", sum := "c1062c17e4508e07df560712e1bbafab2ce663ed7cadbc50c0d1e8bc490ffcc6", func := "interchange/interchangelaw14.LineOrder", spec := "lineOrder", unfollowed := true, recurses := true, apart := false }
def LineOrderSaid : Prop := lineOrderRow.holds Try.pinned (OpenSpec.ofChange lineOrderSpec)

/-- ITS FALSE NEIGHBOUR: 'it returns false'. Refute it at one input. -/
def lineOrderWrong : ChangeSpec := { name := "lineOrder", fn := fun _ => fun
  | [d1, d2] => { results := [.lit (.bool false)], args := [d1, d2] }
  | _ => none }
def LineOrderWrongFalsely : Prop := lineOrderRow.holds Try.pinned (OpenSpec.ofChange lineOrderWrong)

/-- 'interchangelaw14.LineServes': WHATEVER THE INPUT: true; the input reads as it did. -/
def lineServesSpec : ChangeSpec := { name := "lineServes", fn := fun _ => fun
  | [d1, d2] => { results := [.lit (.bool true)], args := [d1, d2] }
  | _ => none }
def lineServesRow : OpenClaim := { program := "ytpfaidejbnbelaa", sum := "c1062c17e4508e07df560712e1bbafab2ce663ed7cadbc50c0d1e8bc490ffcc6", func := "interchange/interchangelaw14.LineServes", spec := "lineServes", unfollowed := true, recurses := true, apart := false }
def LineServesSaid : Prop := lineServesRow.holds Try.pinned (OpenSpec.ofChange lineServesSpec)

/-- ITS FALSE NEIGHBOUR: 'it returns false'. Refute it at one input. -/
def lineServesWrong : ChangeSpec := { name := "lineServes", fn := fun _ => fun
  | [d1, d2] => { results := [.lit (.bool false)], args := [d1, d2] }
  | _ => none }
def LineServesWrongFalsely : Prop := lineServesRow.holds Try.pinned (OpenSpec.ofChange lineServesWrong)

/- THE SECOND FORM. 'bulk': how many values and letters a reading holds, each counted each time it is reached (what is shared counts as often as it is met; a slice's spare places count too). A statement '..UptoSaid' is the law's where the arguments, and the package variables that the reading takes, are together of bulk at most 1048576: NARROWER than '..Said'. Prove '..Said' where nothing that the law and all that it calls make is longer than what came in: it says more and counts as full. Else prove '..UptoSaid'. A law counts once. -/
mutual
def uptoBulk {H : Type} : DataW H → Nat
  | .lit (.string bytes) => bytes.length + 1
  | .lit _ => 1
  | .nil => 1
  | .ptr d => uptoBulk d + 1
  | .slice elems spare => uptoBulkAll elems + uptoBulkAll spare + 1
  | .agg parts => uptoBulkAll parts + 1
  | .iface _ d => uptoBulk d + 1
  | .map entries => uptoBulkEntries entries + 1
  | .held _ => 1
def uptoBulkAll {H : Type} : List (DataW H) → Nat
  | [] => 0
  | d :: r => uptoBulk d + uptoBulkAll r
def uptoBulkEntries {H : Type} : List (Lit × DataW H) → Nat
  | [] => 0
  | x :: r => uptoBulkEntry x + uptoBulkEntries r
def uptoBulkEntry {H : Type} : Lit × DataW H → Nat
  | (.string bytes, d) => bytes.length + uptoBulk d + 1
  | (_, d) => uptoBulk d + 1
 end
def uptoSmall : (H : Type) → List (DataW H) → Bool := fun _ ds => decide (uptoBulkAll ds ≤ 1048576)
def OpenSpec.upto (s : _root_.Go.ChangeSpec) : _root_.Go.OpenSpec := { _root_.Go.OpenSpec.ofChange s with cond := some uptoSmall }

/-- 'interchangelaw14.LineDrops', WHERE WHAT IT READS IS OF BULK AT MOST 1048576: true; the input reads as it did. -/
def lineDropsUptoRow : OpenClaim := { program := "ytpfaidejbnbelaa", sum := "c1062c17e4508e07df560712e1bbafab2ce663ed7cadbc50c0d1e8bc490ffcc6", func := "interchange/interchangelaw14.LineDrops", spec := "lineDrops", unfollowed := true, recurses := true, apart := false, narrowed := true }
def LineDropsUptoSaid : Prop := lineDropsUptoRow.holds Try.pinned (OpenSpec.upto lineDropsSpec)

/-- 'interchangelaw14.LineFull', WHERE WHAT IT READS IS OF BULK AT MOST 1048576: true; the input reads as it did. -/
def lineFullUptoRow : OpenClaim := { program := "ytpfaidejbnbelaa", sum := "c1062c17e4508e07df560712e1bbafab2ce663ed7cadbc50c0d1e8bc490ffcc6", func := "interchange/interchangelaw14.LineFull", spec := "lineFull", unfollowed := true, recurses := true, apart := false, narrowed := true }
def LineFullUptoSaid : Prop := lineFullUptoRow.holds Try.pinned (OpenSpec.upto lineFullSpec)

/-- 'interchangelaw14.LineFirst', WHERE WHAT IT READS IS OF BULK AT MOST 1048576: true; the input reads as it did. -/
def lineFirstUptoRow : OpenClaim := { program := "ytpfaidejbnbelaa", sum := "c1062c17e4508e07df560712e1bbafab2ce663ed7cadbc50c0d1e8bc490ffcc6", func := "interchange/interchangelaw14.LineFirst", spec := "lineFirst", unfollowed := true, recurses := true, apart := false, narrowed := true }
def LineFirstUptoSaid : Prop := lineFirstUptoRow.holds Try.pinned (OpenSpec.upto lineFirstSpec)

/-- 'interchangelaw14.LineActs', WHERE WHAT IT READS IS OF BULK AT MOST 1048576: true; the input reads as it did. -/
def lineActsUptoRow : OpenClaim := { program := "ytpfaidejbnbelaa", sum := "c1062c17e4508e07df560712e1bbafab2ce663ed7cadbc50c0d1e8bc490ffcc6", func := "interchange/interchangelaw14.LineActs", spec := "lineActs", unfollowed := true, recurses := true, apart := false, narrowed := true }
def LineActsUptoSaid : Prop := lineActsUptoRow.holds Try.pinned (OpenSpec.upto lineActsSpec)

/-- 'interchangelaw14.LineOrder', WHERE WHAT IT READS IS OF BULK AT MOST 1048576: true; the input reads as it did. -/
def lineOrderUptoRow : OpenClaim := { program := "ytpfaidejbnbelaa", sum := "c1062c17e4508e07df560712e1bbafab2ce663ed7cadbc50c0d1e8bc490ffcc6", func := "interchange/interchangelaw14.LineOrder", spec := "lineOrder", unfollowed := true, recurses := true, apart := false, narrowed := true }
def LineOrderUptoSaid : Prop := lineOrderUptoRow.holds Try.pinned (OpenSpec.upto lineOrderSpec)

/-- 'interchangelaw14.LineServes', WHERE WHAT IT READS IS OF BULK AT MOST 1048576: true; the input reads as it did. -/
def lineServesUptoRow : OpenClaim := { program := "ytpfaidejbnbelaa", sum := "c1062c17e4508e07df560712e1bbafab2ce663ed7cadbc50c0d1e8bc490ffcc6", func := "interchange/interchangelaw14.LineServes", spec := "lineServes", unfollowed := true, recurses := true, apart := false, narrowed := true }
def LineServesUptoSaid : Prop := lineServesUptoRow.holds Try.pinned (OpenSpec.upto lineServesSpec)

end Rows
end Go.Proofs.Ytpfaidejbnbelaa
