/-
  DERIVED. GIVEN WITH THE SEED: THE CARDS: each row of YtgpcbcbmhlgekaaDoorRows.lean that lists a variable, with what it lists TIED to the program's text (the seventh form; the later family's looks); each row that meets fmt, with fmt's text TOLD by the authors' own Lean function (tested against real Go, not proved from fmt's source: count such statements apart). THE CARD IS WHAT COUNTS. Prove the row's statement (the work); the ties are given (YtgpcbcbmhlgekaaDoorTie.lean); close each card by the builder's one call (the guide's Derived/Test/ToyasCard.lean, 'card_holds'). Laid BY PROGRAM, IN A SANDBOX (cutbox-door.mjs). By AI agents, Wed Nov 11 2026. No macro, syntax, notation, axiom, sorry.
-/
import Derived.Test.YtgpcbcbmhlgekaaDoorRows
import GoSem.ClaimSeven
namespace Go.Proofs.YtgpcbcbmhlgekaaDoor
namespace Rows

/-- THE TIED CARD OF 'sluicewaylaw15.MessageMakes'. -/
def messageMakesCard : Claim7 := { stood := { row := messageMakesRow, standIns := [], harness := (true, "445e04db03f647f227f61f52ff4afab8badeb7af6c83932f781e31d5357f99b2"), looks := true }, kinds := [], alts := [], laidByText := true, laidKinds := [.data, .data, .data, .sentinel, .sentinel], laidTests := true, laidLooks := .later }
def MessageMakesCardSaid : Prop := Claim7.holds Tryd.pinned (.plain (OpenSpec.ofChange messageMakesSpec)) messageMakesCard

/-- THE TIED CARD OF 'sluicewaylaw15.MessageReads'. -/
def messageReadsCard : Claim7 := { stood := { row := messageReadsRow, standIns := [], harness := (true, "445e04db03f647f227f61f52ff4afab8badeb7af6c83932f781e31d5357f99b2"), looks := true }, kinds := [], alts := [], laidByText := true, laidKinds := [.data, .data, .data, .sentinel, .sentinel], laidTests := true, laidLooks := .later }
def MessageReadsCardSaid : Prop := Claim7.holds Tryd.pinned (.plain (OpenSpec.ofChange messageReadsSpec)) messageReadsCard

/-- THE TIED CARD OF 'sluicewaylaw15.MessageBack'. -/
def messageBackCard : Claim7 := { stood := { row := messageBackRow, standIns := [], harness := (true, "445e04db03f647f227f61f52ff4afab8badeb7af6c83932f781e31d5357f99b2"), looks := true }, kinds := [], alts := [], laidByText := true, laidKinds := [.data, .data, .data, .sentinel, .sentinel], laidTests := true, laidLooks := .later }
def MessageBackCardSaid : Prop := Claim7.holds Tryd.pinned (.plain (OpenSpec.ofChange messageBackSpec)) messageBackCard

/-- THE TIED CARD OF 'sluicewaylaw15.MessageOnly'. -/
def messageOnlyCard : Claim7 := { stood := { row := messageOnlyRow, standIns := [], harness := (true, "445e04db03f647f227f61f52ff4afab8badeb7af6c83932f781e31d5357f99b2"), looks := true }, kinds := [], alts := [], laidByText := true, laidKinds := [.data, .data, .data, .sentinel, .sentinel], laidTests := true, laidLooks := .later }
def MessageOnlyCardSaid : Prop := Claim7.holds Tryd.pinned (.plain (OpenSpec.ofChange messageOnlySpec)) messageOnlyCard

/-- THE TIED CARD OF 'sluicewaylaw14.CookieTells'. -/
def cookieTellsCard : Claim7 := { stood := { row := cookieTellsRow, standIns := [], harness := (true, "445e04db03f647f227f61f52ff4afab8badeb7af6c83932f781e31d5357f99b2"), looks := true }, kinds := [], alts := [], laidByText := true, laidKinds := [.data, .data, .data, .sentinel, .sentinel, .data], laidTests := true, laidLooks := .later }
def CookieTellsCardSaid : Prop := Claim7.holds Tryd.pinned (.plain (OpenSpec.ofChange cookieTellsSpec)) cookieTellsCard

/-- THE TIED CARD OF 'sluicewaylaw14.CookieBack'. -/
def cookieBackCard : Claim7 := { stood := { row := cookieBackRow, standIns := [], harness := (true, "445e04db03f647f227f61f52ff4afab8badeb7af6c83932f781e31d5357f99b2"), looks := true }, kinds := [], alts := [], laidByText := true, laidKinds := [.data, .data, .data, .sentinel, .sentinel, .data], laidTests := true, laidLooks := .later }
def CookieBackCardSaid : Prop := Claim7.holds Tryd.pinned (.plain (OpenSpec.ofChange cookieBackSpec)) cookieBackCard

/-- THE TIED CARD OF 'sluicewaylaw14.CookieForged'. -/
def cookieForgedCard : Claim7 := { stood := { row := cookieForgedRow, standIns := [], harness := (true, "445e04db03f647f227f61f52ff4afab8badeb7af6c83932f781e31d5357f99b2"), looks := true }, kinds := [], alts := [], laidByText := true, laidKinds := [.data, .data, .data, .sentinel, .sentinel, .data], laidTests := true, laidLooks := .later }
def CookieForgedCardSaid : Prop := Claim7.holds Tryd.pinned (.plain (OpenSpec.ofChange cookieForgedSpec)) cookieForgedCard

/-- THE TIED CARD OF 'sluicewaylaw14.CookieUnlike'. -/
def cookieUnlikeCard : Claim7 := { stood := { row := cookieUnlikeRow, standIns := [], harness := (true, "445e04db03f647f227f61f52ff4afab8badeb7af6c83932f781e31d5357f99b2"), looks := true }, kinds := [], alts := [], laidByText := true, laidKinds := [.data, .data, .data, .sentinel, .sentinel, .data], laidTests := true, laidLooks := .later }
def CookieUnlikeCardSaid : Prop := Claim7.holds Tryd.pinned (.plain (OpenSpec.ofChange cookieUnlikeSpec)) cookieUnlikeCard

/-- THE TIED CARD OF 'sluicewaylaw14.CookieEnds'. -/
def cookieEndsCard : Claim7 := { stood := { row := cookieEndsRow, standIns := [], harness := (true, "445e04db03f647f227f61f52ff4afab8badeb7af6c83932f781e31d5357f99b2"), looks := true }, kinds := [], alts := [], laidByText := true, laidKinds := [.data, .data, .data, .sentinel, .sentinel, .data], laidTests := true, laidLooks := .later }
def CookieEndsCardSaid : Prop := Claim7.holds Tryd.pinned (.plain (OpenSpec.ofChange cookieEndsSpec)) cookieEndsCard

/-- THE TIED CARD OF 'sluicewaylaw14.CookieDone'. -/
def cookieDoneCard : Claim7 := { stood := { row := cookieDoneRow, standIns := [], harness := (true, "445e04db03f647f227f61f52ff4afab8badeb7af6c83932f781e31d5357f99b2"), looks := true }, kinds := [], alts := [], laidByText := true, laidKinds := [.data, .data, .data, .sentinel, .sentinel, .data], laidTests := true, laidLooks := .later }
def CookieDoneCardSaid : Prop := Claim7.holds Tryd.pinned (.plain (OpenSpec.ofChange cookieDoneSpec)) cookieDoneCard

/-- THE TIED CARD OF 'sluicewaylaw14.CookieOthers'. -/
def cookieOthersCard : Claim7 := { stood := { row := cookieOthersRow, standIns := [], harness := (true, "445e04db03f647f227f61f52ff4afab8badeb7af6c83932f781e31d5357f99b2"), looks := true }, kinds := [], alts := [], laidByText := true, laidKinds := [.data, .data, .data, .sentinel, .sentinel, .data], laidTests := true, laidLooks := .later }
def CookieOthersCardSaid : Prop := Claim7.holds Tryd.pinned (.plain (OpenSpec.ofChange cookieOthersSpec)) cookieOthersCard

/-- THE TIED CARD OF 'sluicewaylaw14.CookieShut'. -/
def cookieShutCard : Claim7 := { stood := { row := cookieShutRow, standIns := [], harness := (true, "445e04db03f647f227f61f52ff4afab8badeb7af6c83932f781e31d5357f99b2"), looks := true }, kinds := [], alts := [], laidByText := true, laidKinds := [.data, .data, .data, .sentinel, .sentinel, .data], laidTests := true, laidLooks := .later }
def CookieShutCardSaid : Prop := Claim7.holds Tryd.pinned (.plain (OpenSpec.ofChange cookieShutSpec)) cookieShutCard

/-- THE TIED CARD OF 'sluicewaylaw15.MessageKnown'. -/
def messageKnownCard : Claim7 := { stood := { row := messageKnownRow, standIns := [], harness := (true, "445e04db03f647f227f61f52ff4afab8badeb7af6c83932f781e31d5357f99b2"), looks := true }, kinds := [], alts := [], laidByText := true, laidKinds := [.data, .data, .data, .sentinel, .sentinel, .data], laidTests := true, laidLooks := .later }
def MessageKnownCardSaid : Prop := Claim7.holds Tryd.pinned (.plain (OpenSpec.ofChange messageKnownSpec)) messageKnownCard

/-- THE SECOND FORM's CARD OF 'sluicewaylaw15.MessageMakes'. -/
def messageMakesUptoCard : Claim7 := { stood := { row := messageMakesUptoRow, standIns := [], harness := (true, "445e04db03f647f227f61f52ff4afab8badeb7af6c83932f781e31d5357f99b2"), looks := true }, kinds := [], alts := [], laidByText := true, laidKinds := [.data, .data, .data, .sentinel, .sentinel], laidTests := true, laidLooks := .later }
def MessageMakesUptoCardSaid : Prop := Claim7.holds Tryd.pinned (.plain (OpenSpec.upto messageMakesSpec)) messageMakesUptoCard

/-- THE SECOND FORM's CARD OF 'sluicewaylaw15.MessageReads'. -/
def messageReadsUptoCard : Claim7 := { stood := { row := messageReadsUptoRow, standIns := [], harness := (true, "445e04db03f647f227f61f52ff4afab8badeb7af6c83932f781e31d5357f99b2"), looks := true }, kinds := [], alts := [], laidByText := true, laidKinds := [.data, .data, .data, .sentinel, .sentinel], laidTests := true, laidLooks := .later }
def MessageReadsUptoCardSaid : Prop := Claim7.holds Tryd.pinned (.plain (OpenSpec.upto messageReadsSpec)) messageReadsUptoCard

/-- THE SECOND FORM's CARD OF 'sluicewaylaw15.MessageBack'. -/
def messageBackUptoCard : Claim7 := { stood := { row := messageBackUptoRow, standIns := [], harness := (true, "445e04db03f647f227f61f52ff4afab8badeb7af6c83932f781e31d5357f99b2"), looks := true }, kinds := [], alts := [], laidByText := true, laidKinds := [.data, .data, .data, .sentinel, .sentinel], laidTests := true, laidLooks := .later }
def MessageBackUptoCardSaid : Prop := Claim7.holds Tryd.pinned (.plain (OpenSpec.upto messageBackSpec)) messageBackUptoCard

/-- THE SECOND FORM's CARD OF 'sluicewaylaw15.MessageOnly'. -/
def messageOnlyUptoCard : Claim7 := { stood := { row := messageOnlyUptoRow, standIns := [], harness := (true, "445e04db03f647f227f61f52ff4afab8badeb7af6c83932f781e31d5357f99b2"), looks := true }, kinds := [], alts := [], laidByText := true, laidKinds := [.data, .data, .data, .sentinel, .sentinel], laidTests := true, laidLooks := .later }
def MessageOnlyUptoCardSaid : Prop := Claim7.holds Tryd.pinned (.plain (OpenSpec.upto messageOnlySpec)) messageOnlyUptoCard

/-- THE SECOND FORM's CARD OF 'sluicewaylaw14.CookieTells'. -/
def cookieTellsUptoCard : Claim7 := { stood := { row := cookieTellsUptoRow, standIns := [], harness := (true, "445e04db03f647f227f61f52ff4afab8badeb7af6c83932f781e31d5357f99b2"), looks := true }, kinds := [], alts := [], laidByText := true, laidKinds := [.data, .data, .data, .sentinel, .sentinel, .data], laidTests := true, laidLooks := .later }
def CookieTellsUptoCardSaid : Prop := Claim7.holds Tryd.pinned (.plain (OpenSpec.upto cookieTellsSpec)) cookieTellsUptoCard

/-- THE SECOND FORM's CARD OF 'sluicewaylaw14.CookieBack'. -/
def cookieBackUptoCard : Claim7 := { stood := { row := cookieBackUptoRow, standIns := [], harness := (true, "445e04db03f647f227f61f52ff4afab8badeb7af6c83932f781e31d5357f99b2"), looks := true }, kinds := [], alts := [], laidByText := true, laidKinds := [.data, .data, .data, .sentinel, .sentinel, .data], laidTests := true, laidLooks := .later }
def CookieBackUptoCardSaid : Prop := Claim7.holds Tryd.pinned (.plain (OpenSpec.upto cookieBackSpec)) cookieBackUptoCard

/-- THE SECOND FORM's CARD OF 'sluicewaylaw14.CookieForged'. -/
def cookieForgedUptoCard : Claim7 := { stood := { row := cookieForgedUptoRow, standIns := [], harness := (true, "445e04db03f647f227f61f52ff4afab8badeb7af6c83932f781e31d5357f99b2"), looks := true }, kinds := [], alts := [], laidByText := true, laidKinds := [.data, .data, .data, .sentinel, .sentinel, .data], laidTests := true, laidLooks := .later }
def CookieForgedUptoCardSaid : Prop := Claim7.holds Tryd.pinned (.plain (OpenSpec.upto cookieForgedSpec)) cookieForgedUptoCard

/-- THE SECOND FORM's CARD OF 'sluicewaylaw14.CookieUnlike'. -/
def cookieUnlikeUptoCard : Claim7 := { stood := { row := cookieUnlikeUptoRow, standIns := [], harness := (true, "445e04db03f647f227f61f52ff4afab8badeb7af6c83932f781e31d5357f99b2"), looks := true }, kinds := [], alts := [], laidByText := true, laidKinds := [.data, .data, .data, .sentinel, .sentinel, .data], laidTests := true, laidLooks := .later }
def CookieUnlikeUptoCardSaid : Prop := Claim7.holds Tryd.pinned (.plain (OpenSpec.upto cookieUnlikeSpec)) cookieUnlikeUptoCard

/-- THE SECOND FORM's CARD OF 'sluicewaylaw14.CookieEnds'. -/
def cookieEndsUptoCard : Claim7 := { stood := { row := cookieEndsUptoRow, standIns := [], harness := (true, "445e04db03f647f227f61f52ff4afab8badeb7af6c83932f781e31d5357f99b2"), looks := true }, kinds := [], alts := [], laidByText := true, laidKinds := [.data, .data, .data, .sentinel, .sentinel, .data], laidTests := true, laidLooks := .later }
def CookieEndsUptoCardSaid : Prop := Claim7.holds Tryd.pinned (.plain (OpenSpec.upto cookieEndsSpec)) cookieEndsUptoCard

/-- THE SECOND FORM's CARD OF 'sluicewaylaw14.CookieDone'. -/
def cookieDoneUptoCard : Claim7 := { stood := { row := cookieDoneUptoRow, standIns := [], harness := (true, "445e04db03f647f227f61f52ff4afab8badeb7af6c83932f781e31d5357f99b2"), looks := true }, kinds := [], alts := [], laidByText := true, laidKinds := [.data, .data, .data, .sentinel, .sentinel, .data], laidTests := true, laidLooks := .later }
def CookieDoneUptoCardSaid : Prop := Claim7.holds Tryd.pinned (.plain (OpenSpec.upto cookieDoneSpec)) cookieDoneUptoCard

/-- THE SECOND FORM's CARD OF 'sluicewaylaw14.CookieOthers'. -/
def cookieOthersUptoCard : Claim7 := { stood := { row := cookieOthersUptoRow, standIns := [], harness := (true, "445e04db03f647f227f61f52ff4afab8badeb7af6c83932f781e31d5357f99b2"), looks := true }, kinds := [], alts := [], laidByText := true, laidKinds := [.data, .data, .data, .sentinel, .sentinel, .data], laidTests := true, laidLooks := .later }
def CookieOthersUptoCardSaid : Prop := Claim7.holds Tryd.pinned (.plain (OpenSpec.upto cookieOthersSpec)) cookieOthersUptoCard

/-- THE SECOND FORM's CARD OF 'sluicewaylaw14.CookieShut'. -/
def cookieShutUptoCard : Claim7 := { stood := { row := cookieShutUptoRow, standIns := [], harness := (true, "445e04db03f647f227f61f52ff4afab8badeb7af6c83932f781e31d5357f99b2"), looks := true }, kinds := [], alts := [], laidByText := true, laidKinds := [.data, .data, .data, .sentinel, .sentinel, .data], laidTests := true, laidLooks := .later }
def CookieShutUptoCardSaid : Prop := Claim7.holds Tryd.pinned (.plain (OpenSpec.upto cookieShutSpec)) cookieShutUptoCard

/-- THE SECOND FORM's CARD OF 'sluicewaylaw15.MessageKnown'. -/
def messageKnownUptoCard : Claim7 := { stood := { row := messageKnownUptoRow, standIns := [], harness := (true, "445e04db03f647f227f61f52ff4afab8badeb7af6c83932f781e31d5357f99b2"), looks := true }, kinds := [], alts := [], laidByText := true, laidKinds := [.data, .data, .data, .sentinel, .sentinel, .data], laidTests := true, laidLooks := .later }
def MessageKnownUptoCardSaid : Prop := Claim7.holds Tryd.pinned (.plain (OpenSpec.upto messageKnownSpec)) messageKnownUptoCard
end Rows
end Go.Proofs.YtgpcbcbmhlgekaaDoor
