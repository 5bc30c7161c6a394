/-
  DERIVED. GIVEN WITH THE SEED: THE CARDS: each row of YtpmgdaoofalpnaaGreatDoorRows.lean that lists a variable, with what it lists TIED to the program's text (the seventh form; the later family's looks); each row that meets fmt, with fmt's text TOLD by the authors' own Lean function (tested against real Go, not proved from fmt's source: count such statements apart). THE CARD IS WHAT COUNTS. Prove the row's statement (the work); the ties are given (YtpmgdaoofalpnaaGreatDoorTie.lean); close each card by the builder's one call (the guide's Derived/Test/ToyasCard.lean, 'card_holds'). Laid BY PROGRAM, IN A SANDBOX (cutbox-door.mjs). By AI agents, Wed Nov 11 2026. No macro, syntax, notation, axiom, sorry.
-/
import Derived.Test.YtpmgdaoofalpnaaGreatDoorRows
import GoSem.ClaimSeven
namespace Go.Proofs.YtpmgdaoofalpnaaGreatDoor
namespace Rows

/-- THE TIED CARD OF 'sluicewaylaw17.MechChallenges'. -/
def mechChallengesCard : Claim7 := { stood := { row := mechChallengesRow, standIns := [], harness := (true, "e38bc5bcb5d300c17edab42981c0cea82b4e5a1113cf8694fb4cb966f936cb3a"), looks := true }, kinds := [], alts := [], laidByText := true, laidKinds := [.data, .data, .data, .sentinel, .sentinel, .data], laidTests := true, laidLooks := .later }
def MechChallengesCardSaid : Prop := Claim7.holds Tryz.pinned (.plain (OpenSpec.ofChange mechChallengesSpec)) mechChallengesCard

/-- THE TIED CARD OF 'sluicewaylaw17.MechMeets'. -/
def mechMeetsCard : Claim7 := { stood := { row := mechMeetsRow, standIns := [], harness := (true, "e38bc5bcb5d300c17edab42981c0cea82b4e5a1113cf8694fb4cb966f936cb3a"), looks := true }, kinds := [], alts := [], laidByText := true, laidKinds := [.data, .data, .data, .sentinel, .sentinel, .data], laidTests := true, laidLooks := .later }
def MechMeetsCardSaid : Prop := Claim7.holds Tryz.pinned (.plain (OpenSpec.ofChange mechMeetsSpec)) mechMeetsCard

/-- THE TIED CARD OF 'sluicewaylaw17.MechWindow'. -/
def mechWindowCard : Claim7 := { stood := { row := mechWindowRow, standIns := [], harness := (true, "e38bc5bcb5d300c17edab42981c0cea82b4e5a1113cf8694fb4cb966f936cb3a"), looks := true }, kinds := [], alts := [], laidByText := true, laidKinds := [.data, .data, .data, .sentinel, .sentinel, .data], laidTests := true, laidLooks := .later }
def MechWindowCardSaid : Prop := Claim7.holds Tryz.pinned (.plain (OpenSpec.ofChange mechWindowSpec)) mechWindowCard

/-- THE TIED CARD OF 'sluicewaylaw17.MechOthers'. -/
def mechOthersCard : Claim7 := { stood := { row := mechOthersRow, standIns := [], harness := (true, "e38bc5bcb5d300c17edab42981c0cea82b4e5a1113cf8694fb4cb966f936cb3a"), looks := true }, kinds := [], alts := [], laidByText := true, laidKinds := [.data, .data, .data, .sentinel, .sentinel, .data], laidTests := true, laidLooks := .later }
def MechOthersCardSaid : Prop := Claim7.holds Tryz.pinned (.plain (OpenSpec.ofChange mechOthersSpec)) mechOthersCard

/-- THE TIED CARD OF 'sluicewaylaw17.MechSides'. -/
def mechSidesCard : Claim7 := { stood := { row := mechSidesRow, standIns := [], harness := (true, "e38bc5bcb5d300c17edab42981c0cea82b4e5a1113cf8694fb4cb966f936cb3a"), looks := true }, kinds := [], alts := [], laidByText := true, laidKinds := [.data, .data, .data, .sentinel, .sentinel, .data], laidTests := true, laidLooks := .later }
def MechSidesCardSaid : Prop := Claim7.holds Tryz.pinned (.plain (OpenSpec.ofChange mechSidesSpec)) mechSidesCard

/-- THE TIED CARD OF 'sluicewaylaw17.MechHides'. -/
def mechHidesCard : Claim7 := { stood := { row := mechHidesRow, standIns := [], harness := (true, "e38bc5bcb5d300c17edab42981c0cea82b4e5a1113cf8694fb4cb966f936cb3a"), looks := true }, kinds := [], alts := [], laidByText := true, laidKinds := [.data, .data, .data, .sentinel, .sentinel, .data], laidTests := true, laidLooks := .later }
def MechHidesCardSaid : Prop := Claim7.holds Tryz.pinned (.plain (OpenSpec.ofChange mechHidesSpec)) mechHidesCard

/-- THE SECOND FORM's CARD OF 'sluicewaylaw17.MechChallenges'. -/
def mechChallengesUptoCard : Claim7 := { stood := { row := mechChallengesUptoRow, standIns := [], harness := (true, "e38bc5bcb5d300c17edab42981c0cea82b4e5a1113cf8694fb4cb966f936cb3a"), looks := true }, kinds := [], alts := [], laidByText := true, laidKinds := [.data, .data, .data, .sentinel, .sentinel, .data], laidTests := true, laidLooks := .later }
def MechChallengesUptoCardSaid : Prop := Claim7.holds Tryz.pinned (.plain (OpenSpec.upto mechChallengesSpec)) mechChallengesUptoCard

/-- THE SECOND FORM's CARD OF 'sluicewaylaw17.MechMeets'. -/
def mechMeetsUptoCard : Claim7 := { stood := { row := mechMeetsUptoRow, standIns := [], harness := (true, "e38bc5bcb5d300c17edab42981c0cea82b4e5a1113cf8694fb4cb966f936cb3a"), looks := true }, kinds := [], alts := [], laidByText := true, laidKinds := [.data, .data, .data, .sentinel, .sentinel, .data], laidTests := true, laidLooks := .later }
def MechMeetsUptoCardSaid : Prop := Claim7.holds Tryz.pinned (.plain (OpenSpec.upto mechMeetsSpec)) mechMeetsUptoCard

/-- THE SECOND FORM's CARD OF 'sluicewaylaw17.MechWindow'. -/
def mechWindowUptoCard : Claim7 := { stood := { row := mechWindowUptoRow, standIns := [], harness := (true, "e38bc5bcb5d300c17edab42981c0cea82b4e5a1113cf8694fb4cb966f936cb3a"), looks := true }, kinds := [], alts := [], laidByText := true, laidKinds := [.data, .data, .data, .sentinel, .sentinel, .data], laidTests := true, laidLooks := .later }
def MechWindowUptoCardSaid : Prop := Claim7.holds Tryz.pinned (.plain (OpenSpec.upto mechWindowSpec)) mechWindowUptoCard

/-- THE SECOND FORM's CARD OF 'sluicewaylaw17.MechOthers'. -/
def mechOthersUptoCard : Claim7 := { stood := { row := mechOthersUptoRow, standIns := [], harness := (true, "e38bc5bcb5d300c17edab42981c0cea82b4e5a1113cf8694fb4cb966f936cb3a"), looks := true }, kinds := [], alts := [], laidByText := true, laidKinds := [.data, .data, .data, .sentinel, .sentinel, .data], laidTests := true, laidLooks := .later }
def MechOthersUptoCardSaid : Prop := Claim7.holds Tryz.pinned (.plain (OpenSpec.upto mechOthersSpec)) mechOthersUptoCard

/-- THE SECOND FORM's CARD OF 'sluicewaylaw17.MechSides'. -/
def mechSidesUptoCard : Claim7 := { stood := { row := mechSidesUptoRow, standIns := [], harness := (true, "e38bc5bcb5d300c17edab42981c0cea82b4e5a1113cf8694fb4cb966f936cb3a"), looks := true }, kinds := [], alts := [], laidByText := true, laidKinds := [.data, .data, .data, .sentinel, .sentinel, .data], laidTests := true, laidLooks := .later }
def MechSidesUptoCardSaid : Prop := Claim7.holds Tryz.pinned (.plain (OpenSpec.upto mechSidesSpec)) mechSidesUptoCard

/-- THE SECOND FORM's CARD OF 'sluicewaylaw17.MechHides'. -/
def mechHidesUptoCard : Claim7 := { stood := { row := mechHidesUptoRow, standIns := [], harness := (true, "e38bc5bcb5d300c17edab42981c0cea82b4e5a1113cf8694fb4cb966f936cb3a"), looks := true }, kinds := [], alts := [], laidByText := true, laidKinds := [.data, .data, .data, .sentinel, .sentinel, .data], laidTests := true, laidLooks := .later }
def MechHidesUptoCardSaid : Prop := Claim7.holds Tryz.pinned (.plain (OpenSpec.upto mechHidesSpec)) mechHidesUptoCard
end Rows
end Go.Proofs.YtpmgdaoofalpnaaGreatDoor
