/-
  DERIVED. GIVEN WITH THE SEED: THE CARDS: each row of YtobdcmgdodahgaaDoorRows.lean that lists a variable, with what it lists TIED to the program's text (the seventh form; the later family's looks); each row that meets fmt, with fmt's text TOLD by the authors' own Lean function (tested against real Go, not proved from fmt's source: count such statements apart). THE CARD IS WHAT COUNTS. Prove the row's statement (the work); the ties are given (YtobdcmgdodahgaaDoorTie.lean); close each card by the builder's one call (the guide's Derived/Test/ToyasCard.lean, 'card_holds'). Laid BY PROGRAM, IN A SANDBOX (cutbox-door.mjs). By AI agents, Wed Nov 11 2026. No macro, syntax, notation, axiom, sorry.
-/
import Derived.Test.YtobdcmgdodahgaaDoorRows
import GoSem.ClaimSeven
namespace Go.Proofs.YtobdcmgdodahgaaDoor
namespace Rows

/-- THE TIED CARD OF 'interchangelaw17.NamesStay'. -/
def namesStayCard : Claim7 := { stood := { row := namesStayRow, standIns := [], harness := (true, "45ff9adffde43afe44e9aaae879c441376bffb1bda9a586737e8e76e0c3dc00b"), looks := false }, kinds := [], alts := [], laidByText := true, laidKinds := [.data, .data, .data, .widerDeep], laidTests := true, laidLooks := .later }
def NamesStayCardSaid : Prop := Claim7.holds Tryd.pinned (.plain (OpenSpec.ofChange namesStaySpec)) namesStayCard

/-- THE TIED CARD OF 'interchangelaw17.NamesApart'. -/
def namesApartCard : Claim7 := { stood := { row := namesApartRow, standIns := [], harness := (true, "45ff9adffde43afe44e9aaae879c441376bffb1bda9a586737e8e76e0c3dc00b"), looks := false }, kinds := [], alts := [], laidByText := true, laidKinds := [.data, .data, .data, .widerDeep], laidTests := true, laidLooks := .later }
def NamesApartCardSaid : Prop := Claim7.holds Tryd.pinned (.plain (OpenSpec.ofChange namesApartSpec)) namesApartCard

/-- THE TIED CARD OF 'interchangelaw17.NamesMade'. -/
def namesMadeCard : Claim7 := { stood := { row := namesMadeRow, standIns := [], harness := (true, "45ff9adffde43afe44e9aaae879c441376bffb1bda9a586737e8e76e0c3dc00b"), looks := false }, kinds := [], alts := [], laidByText := true, laidKinds := [.data, .data, .data, .widerDeep], laidTests := true, laidLooks := .later }
def NamesMadeCardSaid : Prop := Claim7.holds Tryd.pinned (.plain (OpenSpec.ofChange namesMadeSpec)) namesMadeCard

/-- THE TIED CARD OF 'interchangelaw17.NamesLong'. -/
def namesLongCard : Claim7 := { stood := { row := namesLongRow, standIns := [], harness := (true, "45ff9adffde43afe44e9aaae879c441376bffb1bda9a586737e8e76e0c3dc00b"), looks := false }, kinds := [], alts := [], laidByText := true, laidKinds := [.data, .data, .data, .widerDeep], laidTests := true, laidLooks := .later }
def NamesLongCardSaid : Prop := Claim7.holds Tryd.pinned (.plain (OpenSpec.ofChange namesLongSpec)) namesLongCard

/-- THE TIED CARD OF 'interchangelaw17.NamesFree'. -/
def namesFreeCard : Claim7 := { stood := { row := namesFreeRow, standIns := [], harness := (true, "45ff9adffde43afe44e9aaae879c441376bffb1bda9a586737e8e76e0c3dc00b"), looks := false }, kinds := [], alts := [], laidByText := true, laidKinds := [.data, .data, .data, .widerDeep], laidTests := true, laidLooks := .later }
def NamesFreeCardSaid : Prop := Claim7.holds Tryd.pinned (.plain (OpenSpec.ofChange namesFreeSpec)) namesFreeCard

/-- THE TIED CARD OF 'interchangelaw17.NamesTwice'. -/
def namesTwiceCard : Claim7 := { stood := { row := namesTwiceRow, standIns := [], harness := (true, "45ff9adffde43afe44e9aaae879c441376bffb1bda9a586737e8e76e0c3dc00b"), looks := false }, kinds := [], alts := [], laidByText := true, laidKinds := [.data, .data, .data, .widerDeep], laidTests := true, laidLooks := .later }
def NamesTwiceCardSaid : Prop := Claim7.holds Tryd.pinned (.plain (OpenSpec.ofChange namesTwiceSpec)) namesTwiceCard

/-- THE SECOND FORM's CARD OF 'interchangelaw17.NamesStay'. -/
def namesStayUptoCard : Claim7 := { stood := { row := namesStayUptoRow, standIns := [], harness := (true, "45ff9adffde43afe44e9aaae879c441376bffb1bda9a586737e8e76e0c3dc00b"), looks := false }, kinds := [], alts := [], laidByText := true, laidKinds := [.data, .data, .data, .widerDeep], laidTests := true, laidLooks := .later }
def NamesStayUptoCardSaid : Prop := Claim7.holds Tryd.pinned (.plain (OpenSpec.upto namesStaySpec)) namesStayUptoCard

/-- THE SECOND FORM's CARD OF 'interchangelaw17.NamesApart'. -/
def namesApartUptoCard : Claim7 := { stood := { row := namesApartUptoRow, standIns := [], harness := (true, "45ff9adffde43afe44e9aaae879c441376bffb1bda9a586737e8e76e0c3dc00b"), looks := false }, kinds := [], alts := [], laidByText := true, laidKinds := [.data, .data, .data, .widerDeep], laidTests := true, laidLooks := .later }
def NamesApartUptoCardSaid : Prop := Claim7.holds Tryd.pinned (.plain (OpenSpec.upto namesApartSpec)) namesApartUptoCard

/-- THE SECOND FORM's CARD OF 'interchangelaw17.NamesMade'. -/
def namesMadeUptoCard : Claim7 := { stood := { row := namesMadeUptoRow, standIns := [], harness := (true, "45ff9adffde43afe44e9aaae879c441376bffb1bda9a586737e8e76e0c3dc00b"), looks := false }, kinds := [], alts := [], laidByText := true, laidKinds := [.data, .data, .data, .widerDeep], laidTests := true, laidLooks := .later }
def NamesMadeUptoCardSaid : Prop := Claim7.holds Tryd.pinned (.plain (OpenSpec.upto namesMadeSpec)) namesMadeUptoCard

/-- THE SECOND FORM's CARD OF 'interchangelaw17.NamesLong'. -/
def namesLongUptoCard : Claim7 := { stood := { row := namesLongUptoRow, standIns := [], harness := (true, "45ff9adffde43afe44e9aaae879c441376bffb1bda9a586737e8e76e0c3dc00b"), looks := false }, kinds := [], alts := [], laidByText := true, laidKinds := [.data, .data, .data, .widerDeep], laidTests := true, laidLooks := .later }
def NamesLongUptoCardSaid : Prop := Claim7.holds Tryd.pinned (.plain (OpenSpec.upto namesLongSpec)) namesLongUptoCard

/-- THE SECOND FORM's CARD OF 'interchangelaw17.NamesFree'. -/
def namesFreeUptoCard : Claim7 := { stood := { row := namesFreeUptoRow, standIns := [], harness := (true, "45ff9adffde43afe44e9aaae879c441376bffb1bda9a586737e8e76e0c3dc00b"), looks := false }, kinds := [], alts := [], laidByText := true, laidKinds := [.data, .data, .data, .widerDeep], laidTests := true, laidLooks := .later }
def NamesFreeUptoCardSaid : Prop := Claim7.holds Tryd.pinned (.plain (OpenSpec.upto namesFreeSpec)) namesFreeUptoCard

/-- THE SECOND FORM's CARD OF 'interchangelaw17.NamesTwice'. -/
def namesTwiceUptoCard : Claim7 := { stood := { row := namesTwiceUptoRow, standIns := [], harness := (true, "45ff9adffde43afe44e9aaae879c441376bffb1bda9a586737e8e76e0c3dc00b"), looks := false }, kinds := [], alts := [], laidByText := true, laidKinds := [.data, .data, .data, .widerDeep], laidTests := true, laidLooks := .later }
def NamesTwiceUptoCardSaid : Prop := Claim7.holds Tryd.pinned (.plain (OpenSpec.upto namesTwiceSpec)) namesTwiceUptoCard
end Rows
end Go.Proofs.YtobdcmgdodahgaaDoor
