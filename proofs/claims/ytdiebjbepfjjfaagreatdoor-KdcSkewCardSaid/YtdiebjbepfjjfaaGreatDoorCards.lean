/-
  DERIVED. GIVEN WITH THE SEED: THE CARDS: each row of YtdiebjbepfjjfaaGreatDoorRows.lean that lists a variable, with what it lists TIED to the program's text (the seventh form; the later family's looks); each row that meets fmt, with fmt's text TOLD by the authors' own Lean function (tested against real Go, not proved from fmt's source: count such statements apart). THE CARD IS WHAT COUNTS. Prove the row's statement (the work); the ties are given (YtdiebjbepfjjfaaGreatDoorTie.lean); close each card by the builder's one call (the guide's Derived/Test/ToyasCard.lean, 'card_holds'). Laid BY PROGRAM, IN A SANDBOX (cutbox-door.mjs). By AI agents, Wed Nov 11 2026. No macro, syntax, notation, axiom, sorry.
-/
import Derived.Test.YtdiebjbepfjjfaaGreatDoorRows
import GoSem.ClaimSeven
namespace Go.Proofs.YtdiebjbepfjjfaaGreatDoor
namespace Rows

/-- THE TIED CARD OF 'sluicewaylaw18.KdcReplays'. -/
def kdcReplaysCard : Claim7 := { stood := { row := kdcReplaysRow, standIns := [], harness := (true, "fdfe781d3f7da4bf9e7f6dac477f5ed494b013534b5b3ad954238b5885e88c9a"), looks := true }, kinds := [], alts := [], laidByText := true, laidKinds := [.data, .data, .data, .sentinel, .sentinel, .data], laidTests := true, laidLooks := .later }
def KdcReplaysCardSaid : Prop := Claim7.holds Tryz.pinned (.plain (OpenSpec.ofChange kdcReplaysSpec)) kdcReplaysCard

/-- THE TIED CARD OF 'sluicewaylaw18.KdcCookies'. -/
def kdcCookiesCard : Claim7 := { stood := { row := kdcCookiesRow, standIns := [], harness := (true, "fdfe781d3f7da4bf9e7f6dac477f5ed494b013534b5b3ad954238b5885e88c9a"), looks := true }, kinds := [], alts := [], laidByText := true, laidKinds := [.data, .data, .data, .sentinel, .sentinel, .data], laidTests := true, laidLooks := .later }
def KdcCookiesCardSaid : Prop := Claim7.holds Tryz.pinned (.plain (OpenSpec.ofChange kdcCookiesSpec)) kdcCookiesCard

/-- THE TIED CARD OF 'sluicewaylaw18.KdcOrder'. -/
def kdcOrderCard : Claim7 := { stood := { row := kdcOrderRow, standIns := [], harness := (true, "fdfe781d3f7da4bf9e7f6dac477f5ed494b013534b5b3ad954238b5885e88c9a"), looks := true }, kinds := [], alts := [], laidByText := true, laidKinds := [.data, .data, .data, .sentinel, .sentinel, .data], laidTests := true, laidLooks := .later }
def KdcOrderCardSaid : Prop := Claim7.holds Tryz.pinned (.plain (OpenSpec.ofChange kdcOrderSpec)) kdcOrderCard

/-- THE TIED CARD OF 'sluicewaylaw18.KdcFails'. -/
def kdcFailsCard : Claim7 := { stood := { row := kdcFailsRow, standIns := [], harness := (true, "fdfe781d3f7da4bf9e7f6dac477f5ed494b013534b5b3ad954238b5885e88c9a"), looks := true }, kinds := [], alts := [], laidByText := true, laidKinds := [.data, .data, .data, .sentinel, .sentinel, .data], laidTests := true, laidLooks := .later }
def KdcFailsCardSaid : Prop := Claim7.holds Tryz.pinned (.plain (OpenSpec.ofChange kdcFailsSpec)) kdcFailsCard

/-- THE TIED CARD OF 'sluicewaylaw18.KdcSkew'. -/
def kdcSkewCard : Claim7 := { stood := { row := kdcSkewRow, standIns := [], harness := (true, "fdfe781d3f7da4bf9e7f6dac477f5ed494b013534b5b3ad954238b5885e88c9a"), looks := true }, kinds := [], alts := [], laidByText := true, laidKinds := [.data, .data, .data, .sentinel, .sentinel, .data], laidTests := true, laidLooks := .later }
def KdcSkewCardSaid : Prop := Claim7.holds Tryz.pinned (.plain (OpenSpec.ofChange kdcSkewSpec)) kdcSkewCard

/-- THE SECOND FORM's CARD OF 'sluicewaylaw18.KdcReplays'. -/
def kdcReplaysUptoCard : Claim7 := { stood := { row := kdcReplaysUptoRow, standIns := [], harness := (true, "fdfe781d3f7da4bf9e7f6dac477f5ed494b013534b5b3ad954238b5885e88c9a"), looks := true }, kinds := [], alts := [], laidByText := true, laidKinds := [.data, .data, .data, .sentinel, .sentinel, .data], laidTests := true, laidLooks := .later }
def KdcReplaysUptoCardSaid : Prop := Claim7.holds Tryz.pinned (.plain (OpenSpec.upto kdcReplaysSpec)) kdcReplaysUptoCard

/-- THE SECOND FORM's CARD OF 'sluicewaylaw18.KdcCookies'. -/
def kdcCookiesUptoCard : Claim7 := { stood := { row := kdcCookiesUptoRow, standIns := [], harness := (true, "fdfe781d3f7da4bf9e7f6dac477f5ed494b013534b5b3ad954238b5885e88c9a"), looks := true }, kinds := [], alts := [], laidByText := true, laidKinds := [.data, .data, .data, .sentinel, .sentinel, .data], laidTests := true, laidLooks := .later }
def KdcCookiesUptoCardSaid : Prop := Claim7.holds Tryz.pinned (.plain (OpenSpec.upto kdcCookiesSpec)) kdcCookiesUptoCard

/-- THE SECOND FORM's CARD OF 'sluicewaylaw18.KdcOrder'. -/
def kdcOrderUptoCard : Claim7 := { stood := { row := kdcOrderUptoRow, standIns := [], harness := (true, "fdfe781d3f7da4bf9e7f6dac477f5ed494b013534b5b3ad954238b5885e88c9a"), looks := true }, kinds := [], alts := [], laidByText := true, laidKinds := [.data, .data, .data, .sentinel, .sentinel, .data], laidTests := true, laidLooks := .later }
def KdcOrderUptoCardSaid : Prop := Claim7.holds Tryz.pinned (.plain (OpenSpec.upto kdcOrderSpec)) kdcOrderUptoCard

/-- THE SECOND FORM's CARD OF 'sluicewaylaw18.KdcFails'. -/
def kdcFailsUptoCard : Claim7 := { stood := { row := kdcFailsUptoRow, standIns := [], harness := (true, "fdfe781d3f7da4bf9e7f6dac477f5ed494b013534b5b3ad954238b5885e88c9a"), looks := true }, kinds := [], alts := [], laidByText := true, laidKinds := [.data, .data, .data, .sentinel, .sentinel, .data], laidTests := true, laidLooks := .later }
def KdcFailsUptoCardSaid : Prop := Claim7.holds Tryz.pinned (.plain (OpenSpec.upto kdcFailsSpec)) kdcFailsUptoCard

/-- THE SECOND FORM's CARD OF 'sluicewaylaw18.KdcSkew'. -/
def kdcSkewUptoCard : Claim7 := { stood := { row := kdcSkewUptoRow, standIns := [], harness := (true, "fdfe781d3f7da4bf9e7f6dac477f5ed494b013534b5b3ad954238b5885e88c9a"), looks := true }, kinds := [], alts := [], laidByText := true, laidKinds := [.data, .data, .data, .sentinel, .sentinel, .data], laidTests := true, laidLooks := .later }
def KdcSkewUptoCardSaid : Prop := Claim7.holds Tryz.pinned (.plain (OpenSpec.upto kdcSkewSpec)) kdcSkewUptoCard
end Rows
end Go.Proofs.YtdiebjbepfjjfaaGreatDoor
