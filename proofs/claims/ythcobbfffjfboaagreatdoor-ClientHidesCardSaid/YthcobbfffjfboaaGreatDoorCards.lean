/-
  DERIVED. GIVEN WITH THE SEED: THE CARDS: each row of YthcobbfffjfboaaGreatDoorRows.lean that lists a variable, with what it lists TIED to the program's text (the seventh form; the later family's looks); each row that meets fmt, with fmt's text TOLD by the authors' own Lean function (tested against real Go, not proved from fmt's source: count such statements apart). THE CARD IS WHAT COUNTS. Prove the row's statement (the work); the ties are given (YthcobbfffjfboaaGreatDoorTie.lean); close each card by the builder's one call (the guide's Derived/Test/ToyasCard.lean, 'card_holds'). Laid BY PROGRAM, IN A SANDBOX (cutbox-door.mjs). By AI agents, Wed Nov 11 2026. No macro, syntax, notation, axiom, sorry.
-/
import Derived.Test.YthcobbfffjfboaaGreatDoorRows
import GoSem.ClaimSeven
namespace Go.Proofs.YthcobbfffjfboaaGreatDoor
namespace Rows

/-- THE TIED CARD OF 'sluicewaylaw19.ClientPlays'. -/
def clientPlaysCard : Claim7 := { stood := { row := clientPlaysRow, standIns := [], harness := (true, "c7125244f8c7a99e8e05a7c5ae5147fd6c33e6298d9f4a331931a8a28bae4b81"), looks := true }, kinds := [], alts := [], laidByText := true, laidKinds := [.data, .data, .data, .sentinel, .sentinel, .data], laidTests := true, laidLooks := .later }
def ClientPlaysCardSaid : Prop := Claim7.holds Tryz.pinned (.plain (OpenSpec.ofChange clientPlaysSpec)) clientPlaysCard

/-- THE TIED CARD OF 'sluicewaylaw19.ClientEnds'. -/
def clientEndsCard : Claim7 := { stood := { row := clientEndsRow, standIns := [], harness := (true, "c7125244f8c7a99e8e05a7c5ae5147fd6c33e6298d9f4a331931a8a28bae4b81"), looks := true }, kinds := [], alts := [], laidByText := true, laidKinds := [.data, .data, .data, .sentinel, .sentinel, .data], laidTests := true, laidLooks := .later }
def ClientEndsCardSaid : Prop := Claim7.holds Tryz.pinned (.plain (OpenSpec.ofChange clientEndsSpec)) clientEndsCard

/-- THE TIED CARD OF 'sluicewaylaw19.ClientOver'. -/
def clientOverCard : Claim7 := { stood := { row := clientOverRow, standIns := [], harness := (true, "c7125244f8c7a99e8e05a7c5ae5147fd6c33e6298d9f4a331931a8a28bae4b81"), looks := true }, kinds := [], alts := [], laidByText := true, laidKinds := [.data, .data, .data, .sentinel, .sentinel, .data], laidTests := true, laidLooks := .later }
def ClientOverCardSaid : Prop := Claim7.holds Tryz.pinned (.plain (OpenSpec.ofChange clientOverSpec)) clientOverCard

/-- THE TIED CARD OF 'sluicewaylaw19.ClientWrong'. -/
def clientWrongCard : Claim7 := { stood := { row := clientWrongRow, standIns := [], harness := (true, "c7125244f8c7a99e8e05a7c5ae5147fd6c33e6298d9f4a331931a8a28bae4b81"), looks := true }, kinds := [], alts := [], laidByText := true, laidKinds := [.data, .data, .data, .sentinel, .sentinel, .data], laidTests := true, laidLooks := .later }
def ClientWrongCardSaid : Prop := Claim7.holds Tryz.pinned (.plain (OpenSpec.ofChange clientWrongSpec)) clientWrongCard

/-- THE TIED CARD OF 'sluicewaylaw19.ClientHides'. -/
def clientHidesCard : Claim7 := { stood := { row := clientHidesRow, standIns := [], harness := (true, "c7125244f8c7a99e8e05a7c5ae5147fd6c33e6298d9f4a331931a8a28bae4b81"), looks := true }, kinds := [], alts := [], laidByText := true, laidKinds := [.data, .data, .data, .sentinel, .sentinel, .data], laidTests := true, laidLooks := .later }
def ClientHidesCardSaid : Prop := Claim7.holds Tryz.pinned (.plain (OpenSpec.ofChange clientHidesSpec)) clientHidesCard

/-- THE SECOND FORM's CARD OF 'sluicewaylaw19.ClientPlays'. -/
def clientPlaysUptoCard : Claim7 := { stood := { row := clientPlaysUptoRow, standIns := [], harness := (true, "c7125244f8c7a99e8e05a7c5ae5147fd6c33e6298d9f4a331931a8a28bae4b81"), looks := true }, kinds := [], alts := [], laidByText := true, laidKinds := [.data, .data, .data, .sentinel, .sentinel, .data], laidTests := true, laidLooks := .later }
def ClientPlaysUptoCardSaid : Prop := Claim7.holds Tryz.pinned (.plain (OpenSpec.upto clientPlaysSpec)) clientPlaysUptoCard

/-- THE SECOND FORM's CARD OF 'sluicewaylaw19.ClientEnds'. -/
def clientEndsUptoCard : Claim7 := { stood := { row := clientEndsUptoRow, standIns := [], harness := (true, "c7125244f8c7a99e8e05a7c5ae5147fd6c33e6298d9f4a331931a8a28bae4b81"), looks := true }, kinds := [], alts := [], laidByText := true, laidKinds := [.data, .data, .data, .sentinel, .sentinel, .data], laidTests := true, laidLooks := .later }
def ClientEndsUptoCardSaid : Prop := Claim7.holds Tryz.pinned (.plain (OpenSpec.upto clientEndsSpec)) clientEndsUptoCard

/-- THE SECOND FORM's CARD OF 'sluicewaylaw19.ClientOver'. -/
def clientOverUptoCard : Claim7 := { stood := { row := clientOverUptoRow, standIns := [], harness := (true, "c7125244f8c7a99e8e05a7c5ae5147fd6c33e6298d9f4a331931a8a28bae4b81"), looks := true }, kinds := [], alts := [], laidByText := true, laidKinds := [.data, .data, .data, .sentinel, .sentinel, .data], laidTests := true, laidLooks := .later }
def ClientOverUptoCardSaid : Prop := Claim7.holds Tryz.pinned (.plain (OpenSpec.upto clientOverSpec)) clientOverUptoCard

/-- THE SECOND FORM's CARD OF 'sluicewaylaw19.ClientWrong'. -/
def clientWrongUptoCard : Claim7 := { stood := { row := clientWrongUptoRow, standIns := [], harness := (true, "c7125244f8c7a99e8e05a7c5ae5147fd6c33e6298d9f4a331931a8a28bae4b81"), looks := true }, kinds := [], alts := [], laidByText := true, laidKinds := [.data, .data, .data, .sentinel, .sentinel, .data], laidTests := true, laidLooks := .later }
def ClientWrongUptoCardSaid : Prop := Claim7.holds Tryz.pinned (.plain (OpenSpec.upto clientWrongSpec)) clientWrongUptoCard

/-- THE SECOND FORM's CARD OF 'sluicewaylaw19.ClientHides'. -/
def clientHidesUptoCard : Claim7 := { stood := { row := clientHidesUptoRow, standIns := [], harness := (true, "c7125244f8c7a99e8e05a7c5ae5147fd6c33e6298d9f4a331931a8a28bae4b81"), looks := true }, kinds := [], alts := [], laidByText := true, laidKinds := [.data, .data, .data, .sentinel, .sentinel, .data], laidTests := true, laidLooks := .later }
def ClientHidesUptoCardSaid : Prop := Claim7.holds Tryz.pinned (.plain (OpenSpec.upto clientHidesSpec)) clientHidesUptoCard
end Rows
end Go.Proofs.YthcobbfffjfboaaGreatDoor
