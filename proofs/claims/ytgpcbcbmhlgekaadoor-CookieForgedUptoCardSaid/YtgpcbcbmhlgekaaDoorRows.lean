/-
  NARROWER THAN 'FOR EVERY INPUT', by the rows' own cells (each row's printed sentence says how): MessageMakes: loops, laid · MessageReads: loops, laid · MessageBack: loops, laid · MessageOnly: loops, laid · CookieTells: loops, laid · CookieBack: loops, laid · CookieForged: loops, laid · CookieUnlike: loops, laid · CookieEnds: loops, laid · CookieDone: laid · CookieOthers: loops, laid · CookieShut: loops, laid · MessageKnown: laid.
  DERIVED. THE GIVEN ROWS OF THIS SEAT. 13 by the template 'for every input the law returns true; each argument reads behind the call as it read before'; 0 by the template 'total and deterministic' (their statements: YtgpcbcbmhlgekaaDoorTotals.lean).
  GIVEN WITH THE SEED: the statements are not yours to turn. If you find one false, say at which input.
  Laid BY PROGRAM, IN A SANDBOX (cutbox-rows.mjs): the forced cells as the released guide's own fill.sh prints them over the translation d5b285ef77d40af9… (all of the seat's roots in one cut). By AI agents, Wed Nov 11 2026. No macro, syntax, notation, axiom, sorry.
-/
import Derived.Test.YtgpcbcbmhlgekaaDoorChecked
import GoSem.Claim
import GoSem.ClaimJoined
import GoSem.ClaimMapViews
import Derived.JoinedTies
import Derived.KernelRfl
namespace Go.Proofs.YtgpcbcbmhlgekaaDoor
/- THE CELL 'sum', in the pinned program and in every row, IS THE sha256 OF THE DUMP (.gsa) THAT YtgpcbcbmhlgekaaDoorProg.lean LOADS. Nothing in Lean hashes anything: it is a label: what it is worth is what the hold of that sum in a sandbox is worth. -/
noncomputable def Tryd.pinned : Pinned := { name := "ytgpcbcbmhlgekaadoor", sum := "d5b285ef77d40af9dc2f29d3a01e0e14065280679b4ce2ce7a1bb1bcaa756a03", checked := Tryd.checked }
namespace Rows
def none {H : Type} : Left H := { results := [], args := [] }

/- WHAT THE LISTED PACKAGE-LEVEL VARIABLES READ AS WHEN THE CALL BEGINS. Each datum BY PROGRAM (the guide's laid-datum.mjs) off the statement by which the dump's own 'gosem.cut.vars' lays the variable. In a bare row this is a premise. The card (YtgpcbcbmhlgekaaDoorCards.lean) ties it to the program's text. -/
def laid_math_bits_deBruijn32tab {H : Type} : DataW H := .agg [.lit (.int .u8 0), .lit (.int .u8 1), .lit (.int .u8 28), .lit (.int .u8 2), .lit (.int .u8 29), .lit (.int .u8 14), .lit (.int .u8 24), .lit (.int .u8 3), .lit (.int .u8 30), .lit (.int .u8 22), .lit (.int .u8 20), .lit (.int .u8 15), .lit (.int .u8 25), .lit (.int .u8 17), .lit (.int .u8 4), .lit (.int .u8 8), .lit (.int .u8 31), .lit (.int .u8 27), .lit (.int .u8 13), .lit (.int .u8 23), .lit (.int .u8 21), .lit (.int .u8 19), .lit (.int .u8 16), .lit (.int .u8 7), .lit (.int .u8 26), .lit (.int .u8 12), .lit (.int .u8 18), .lit (.int .u8 6), .lit (.int .u8 11), .lit (.int .u8 5), .lit (.int .u8 10), .lit (.int .u8 9)]
def laid_math_bits_deBruijn64tab {H : Type} : DataW H := .agg [.lit (.int .u8 0), .lit (.int .u8 1), .lit (.int .u8 56), .lit (.int .u8 2), .lit (.int .u8 57), .lit (.int .u8 49), .lit (.int .u8 28), .lit (.int .u8 3), .lit (.int .u8 61), .lit (.int .u8 58), .lit (.int .u8 42), .lit (.int .u8 50), .lit (.int .u8 38), .lit (.int .u8 29), .lit (.int .u8 17), .lit (.int .u8 4), .lit (.int .u8 62), .lit (.int .u8 47), .lit (.int .u8 59), .lit (.int .u8 36), .lit (.int .u8 45), .lit (.int .u8 43), .lit (.int .u8 51), .lit (.int .u8 22), .lit (.int .u8 53), .lit (.int .u8 39), .lit (.int .u8 33), .lit (.int .u8 30), .lit (.int .u8 24), .lit (.int .u8 18), .lit (.int .u8 12), .lit (.int .u8 5), .lit (.int .u8 63), .lit (.int .u8 55), .lit (.int .u8 48), .lit (.int .u8 27), .lit (.int .u8 60), .lit (.int .u8 41), .lit (.int .u8 37), .lit (.int .u8 16), .lit (.int .u8 46), .lit (.int .u8 35), .lit (.int .u8 44), .lit (.int .u8 21), .lit (.int .u8 52), .lit (.int .u8 32), .lit (.int .u8 23), .lit (.int .u8 11), .lit (.int .u8 54), .lit (.int .u8 26), .lit (.int .u8 40), .lit (.int .u8 15), .lit (.int .u8 34), .lit (.int .u8 20), .lit (.int .u8 31), .lit (.int .u8 10), .lit (.int .u8 25), .lit (.int .u8 14), .lit (.int .u8 19), .lit (.int .u8 9), .lit (.int .u8 13), .lit (.int .u8 8), .lit (.int .u8 7), .lit (.int .u8 6)]
def laid_internal_strconv_uint64pow10 {H : Type} : DataW H := .agg [.lit (.int .u64 1), .lit (.int .u64 10), .lit (.int .u64 100), .lit (.int .u64 1000), .lit (.int .u64 10000), .lit (.int .u64 100000), .lit (.int .u64 1000000), .lit (.int .u64 10000000), .lit (.int .u64 100000000), .lit (.int .u64 1000000000), .lit (.int .u64 10000000000), .lit (.int .u64 100000000000), .lit (.int .u64 1000000000000), .lit (.int .u64 10000000000000), .lit (.int .u64 100000000000000), .lit (.int .u64 1000000000000000), .lit (.int .u64 10000000000000000), .lit (.int .u64 100000000000000000), .lit (.int .u64 1000000000000000000), .lit (.int .u64 10000000000000000000)]
def laid_strconv_ErrRange {H : Type} : DataW H := .iface "*errors.errorString" (.ptr (.agg [.lit (.string [118, 97, 108, 117, 101, 32, 111, 117, 116, 32, 111, 102, 32, 114, 97, 110, 103, 101])]))
def laid_strconv_ErrSyntax {H : Type} : DataW H := .iface "*errors.errorString" (.ptr (.agg [.lit (.string [105, 110, 118, 97, 108, 105, 100, 32, 115, 121, 110, 116, 97, 120])]))
def laid_sluiceway_term_kinds {H : Type} : DataW H := .agg [.agg [.lit (.string []), .lit (.int .i64 0), .lit (.bool false)], .agg [.lit (.string [100]), .lit (.int .i64 0), .lit (.bool true)], .agg [.lit (.string [97]), .lit (.int .i64 0), .lit (.bool true)], .agg [.lit (.string [112]), .lit (.int .i64 (-1)), .lit (.bool false)], .agg [.lit (.string [101]), .lit (.int .i64 2), .lit (.bool false)], .agg [.lit (.string [109]), .lit (.int .i64 2), .lit (.bool false)], .agg [.lit (.string [104]), .lit (.int .i64 1), .lit (.bool false)], .agg [.lit (.string [107]), .lit (.int .i64 1), .lit (.bool true)], .agg [.lit (.string [117]), .lit (.int .i64 1), .lit (.bool false)], .agg [.lit (.string [115]), .lit (.int .i64 2), .lit (.bool false)], .agg [.lit (.string [120]), .lit (.int .i64 2), .lit (.bool false)]]

/-- 'sluicewaylaw15.MessageMakes': WHATEVER THE INPUT: true; the input reads as it did. -/
def messageMakesSpec : ChangeSpec := { name := "messageMakes", fn := fun _ => fun
  | [d1, d2, d3, d4, d5, d6] => { results := [.lit (.bool true)], args := [d1, d2, d3, d4, d5, d6] }
  | _ => none }
def messageMakesRow : OpenClaim := { program := "ytgpcbcbmhlgekaadoor", sum := "d5b285ef77d40af9dc2f29d3a01e0e14065280679b4ce2ce7a1bb1bcaa756a03", func := "sluiceway/sluicewaylaw15.MessageMakes", spec := "messageMakes", recurses := true, named := ["internal/strconv.uint64pow10", "math/bits.deBruijn32tab", "math/bits.deBruijn64tab", "strconv.ErrSyntax", "strconv.ErrRange"], loops := true, apart := false, laid := [("math/bits.deBruijn32tab", laid_math_bits_deBruijn32tab), ("math/bits.deBruijn64tab", laid_math_bits_deBruijn64tab), ("internal/strconv.uint64pow10", laid_internal_strconv_uint64pow10), ("strconv.ErrRange", laid_strconv_ErrRange), ("strconv.ErrSyntax", laid_strconv_ErrSyntax)] }
def MessageMakesSaid : Prop := messageMakesRow.holds Tryd.pinned (OpenSpec.ofChange messageMakesSpec)

/-- ITS FALSE NEIGHBOUR: 'it returns false'. Refute it at one input. -/
def messageMakesWrong : ChangeSpec := { name := "messageMakes", fn := fun _ => fun
  | [d1, d2, d3, d4, d5, d6] => { results := [.lit (.bool false)], args := [d1, d2, d3, d4, d5, d6] }
  | _ => none }
def MessageMakesWrongFalsely : Prop := messageMakesRow.holds Tryd.pinned (OpenSpec.ofChange messageMakesWrong)

/-- 'sluicewaylaw15.MessageReads': WHATEVER THE INPUT: true; the input reads as it did. -/
def messageReadsSpec : ChangeSpec := { name := "messageReads", fn := fun _ => fun
  | [d1, d2, d3] => { results := [.lit (.bool true)], args := [d1, d2, d3] }
  | _ => none }
def messageReadsRow : OpenClaim := { program := "ytgpcbcbmhlgekaadoor", sum := "d5b285ef77d40af9dc2f29d3a01e0e14065280679b4ce2ce7a1bb1bcaa756a03", func := "sluiceway/sluicewaylaw15.MessageReads", spec := "messageReads", recurses := true, named := ["internal/strconv.uint64pow10", "math/bits.deBruijn32tab", "math/bits.deBruijn64tab", "strconv.ErrSyntax", "strconv.ErrRange"], loops := true, apart := false, laid := [("math/bits.deBruijn32tab", laid_math_bits_deBruijn32tab), ("math/bits.deBruijn64tab", laid_math_bits_deBruijn64tab), ("internal/strconv.uint64pow10", laid_internal_strconv_uint64pow10), ("strconv.ErrRange", laid_strconv_ErrRange), ("strconv.ErrSyntax", laid_strconv_ErrSyntax)] }
def MessageReadsSaid : Prop := messageReadsRow.holds Tryd.pinned (OpenSpec.ofChange messageReadsSpec)

/-- ITS FALSE NEIGHBOUR: 'it returns false'. Refute it at one input. -/
def messageReadsWrong : ChangeSpec := { name := "messageReads", fn := fun _ => fun
  | [d1, d2, d3] => { results := [.lit (.bool false)], args := [d1, d2, d3] }
  | _ => none }
def MessageReadsWrongFalsely : Prop := messageReadsRow.holds Tryd.pinned (OpenSpec.ofChange messageReadsWrong)

/-- 'sluicewaylaw15.MessageBack': WHATEVER THE INPUT: true; the input reads as it did. -/
def messageBackSpec : ChangeSpec := { name := "messageBack", fn := fun _ => fun
  | [d1, d2, d3, d4] => { results := [.lit (.bool true)], args := [d1, d2, d3, d4] }
  | _ => none }
def messageBackRow : OpenClaim := { program := "ytgpcbcbmhlgekaadoor", sum := "d5b285ef77d40af9dc2f29d3a01e0e14065280679b4ce2ce7a1bb1bcaa756a03", func := "sluiceway/sluicewaylaw15.MessageBack", spec := "messageBack", recurses := true, named := ["internal/strconv.uint64pow10", "math/bits.deBruijn32tab", "math/bits.deBruijn64tab", "strconv.ErrSyntax", "strconv.ErrRange"], loops := true, apart := false, laid := [("math/bits.deBruijn32tab", laid_math_bits_deBruijn32tab), ("math/bits.deBruijn64tab", laid_math_bits_deBruijn64tab), ("internal/strconv.uint64pow10", laid_internal_strconv_uint64pow10), ("strconv.ErrRange", laid_strconv_ErrRange), ("strconv.ErrSyntax", laid_strconv_ErrSyntax)] }
def MessageBackSaid : Prop := messageBackRow.holds Tryd.pinned (OpenSpec.ofChange messageBackSpec)

/-- ITS FALSE NEIGHBOUR: 'it returns false'. Refute it at one input. -/
def messageBackWrong : ChangeSpec := { name := "messageBack", fn := fun _ => fun
  | [d1, d2, d3, d4] => { results := [.lit (.bool false)], args := [d1, d2, d3, d4] }
  | _ => none }
def MessageBackWrongFalsely : Prop := messageBackRow.holds Tryd.pinned (OpenSpec.ofChange messageBackWrong)

/-- 'sluicewaylaw15.MessageOnly': WHATEVER THE INPUT: true; the input reads as it did. -/
def messageOnlySpec : ChangeSpec := { name := "messageOnly", fn := fun _ => fun
  | [d] => { results := [.lit (.bool true)], args := [d] }
  | _ => none }
def messageOnlyRow : OpenClaim := { program := "ytgpcbcbmhlgekaadoor", sum := "d5b285ef77d40af9dc2f29d3a01e0e14065280679b4ce2ce7a1bb1bcaa756a03", func := "sluiceway/sluicewaylaw15.MessageOnly", spec := "messageOnly", recurses := true, named := ["internal/strconv.uint64pow10", "math/bits.deBruijn32tab", "math/bits.deBruijn64tab", "strconv.ErrSyntax", "strconv.ErrRange"], loops := true, apart := false, laid := [("math/bits.deBruijn32tab", laid_math_bits_deBruijn32tab), ("math/bits.deBruijn64tab", laid_math_bits_deBruijn64tab), ("internal/strconv.uint64pow10", laid_internal_strconv_uint64pow10), ("strconv.ErrRange", laid_strconv_ErrRange), ("strconv.ErrSyntax", laid_strconv_ErrSyntax)] }
def MessageOnlySaid : Prop := messageOnlyRow.holds Tryd.pinned (OpenSpec.ofChange messageOnlySpec)

/-- ITS FALSE NEIGHBOUR: 'it returns false'. Refute it at one input. -/
def messageOnlyWrong : ChangeSpec := { name := "messageOnly", fn := fun _ => fun
  | [d] => { results := [.lit (.bool false)], args := [d] }
  | _ => none }
def MessageOnlyWrongFalsely : Prop := messageOnlyRow.holds Tryd.pinned (OpenSpec.ofChange messageOnlyWrong)

/-- 'sluicewaylaw14.CookieTells': WHATEVER THE INPUT: true; the input reads as it did. -/
def cookieTellsSpec : ChangeSpec := { name := "cookieTells", fn := fun _ => fun
  | [d1, d2, d3, d4] => { results := [.lit (.bool true)], args := [d1, d2, d3, d4] }
  | _ => none }
def cookieTellsRow : OpenClaim := { program := "ytgpcbcbmhlgekaadoor", sum := "d5b285ef77d40af9dc2f29d3a01e0e14065280679b4ce2ce7a1bb1bcaa756a03", func := "sluiceway/sluicewaylaw14.CookieTells", spec := "cookieTells", inPlace := ["internal/abi.NoEscape", "internal/bytealg.MakeNoZero"], unfollowed := true, recurses := true, named := ["sluiceway/term.kinds", "internal/strconv.uint64pow10", "math/bits.deBruijn32tab", "math/bits.deBruijn64tab", "strconv.ErrSyntax", "strconv.ErrRange"], loops := true, apart := false, laid := [("math/bits.deBruijn32tab", laid_math_bits_deBruijn32tab), ("math/bits.deBruijn64tab", laid_math_bits_deBruijn64tab), ("internal/strconv.uint64pow10", laid_internal_strconv_uint64pow10), ("strconv.ErrRange", laid_strconv_ErrRange), ("strconv.ErrSyntax", laid_strconv_ErrSyntax), ("sluiceway/term.kinds", laid_sluiceway_term_kinds)] }
def CookieTellsSaid : Prop := cookieTellsRow.holds Tryd.pinned (OpenSpec.ofChange cookieTellsSpec)

/-- ITS FALSE NEIGHBOUR: 'it returns false'. Refute it at one input. -/
def cookieTellsWrong : ChangeSpec := { name := "cookieTells", fn := fun _ => fun
  | [d1, d2, d3, d4] => { results := [.lit (.bool false)], args := [d1, d2, d3, d4] }
  | _ => none }
def CookieTellsWrongFalsely : Prop := cookieTellsRow.holds Tryd.pinned (OpenSpec.ofChange cookieTellsWrong)

/-- 'sluicewaylaw14.CookieBack': WHATEVER THE INPUT: true; the input reads as it did. -/
def cookieBackSpec : ChangeSpec := { name := "cookieBack", fn := fun _ => fun
  | [d1, d2, d3, d4] => { results := [.lit (.bool true)], args := [d1, d2, d3, d4] }
  | _ => none }
def cookieBackRow : OpenClaim := { program := "ytgpcbcbmhlgekaadoor", sum := "d5b285ef77d40af9dc2f29d3a01e0e14065280679b4ce2ce7a1bb1bcaa756a03", func := "sluiceway/sluicewaylaw14.CookieBack", spec := "cookieBack", inPlace := ["internal/abi.NoEscape", "internal/bytealg.MakeNoZero"], unfollowed := true, recurses := true, named := ["sluiceway/term.kinds", "internal/strconv.uint64pow10", "math/bits.deBruijn32tab", "math/bits.deBruijn64tab", "strconv.ErrSyntax", "strconv.ErrRange"], loops := true, apart := false, laid := [("math/bits.deBruijn32tab", laid_math_bits_deBruijn32tab), ("math/bits.deBruijn64tab", laid_math_bits_deBruijn64tab), ("internal/strconv.uint64pow10", laid_internal_strconv_uint64pow10), ("strconv.ErrRange", laid_strconv_ErrRange), ("strconv.ErrSyntax", laid_strconv_ErrSyntax), ("sluiceway/term.kinds", laid_sluiceway_term_kinds)] }
def CookieBackSaid : Prop := cookieBackRow.holds Tryd.pinned (OpenSpec.ofChange cookieBackSpec)

/-- ITS FALSE NEIGHBOUR: 'it returns false'. Refute it at one input. -/
def cookieBackWrong : ChangeSpec := { name := "cookieBack", fn := fun _ => fun
  | [d1, d2, d3, d4] => { results := [.lit (.bool false)], args := [d1, d2, d3, d4] }
  | _ => none }
def CookieBackWrongFalsely : Prop := cookieBackRow.holds Tryd.pinned (OpenSpec.ofChange cookieBackWrong)

/-- 'sluicewaylaw14.CookieForged': WHATEVER THE INPUT: true; the input reads as it did. -/
def cookieForgedSpec : ChangeSpec := { name := "cookieForged", fn := fun _ => fun
  | [d1, d2, d3, d4] => { results := [.lit (.bool true)], args := [d1, d2, d3, d4] }
  | _ => none }
def cookieForgedRow : OpenClaim := { program := "ytgpcbcbmhlgekaadoor", sum := "d5b285ef77d40af9dc2f29d3a01e0e14065280679b4ce2ce7a1bb1bcaa756a03", func := "sluiceway/sluicewaylaw14.CookieForged", spec := "cookieForged", inPlace := ["internal/abi.NoEscape", "internal/bytealg.MakeNoZero"], unfollowed := true, recurses := true, named := ["sluiceway/term.kinds", "internal/strconv.uint64pow10", "math/bits.deBruijn32tab", "math/bits.deBruijn64tab", "strconv.ErrSyntax", "strconv.ErrRange"], loops := true, apart := false, laid := [("math/bits.deBruijn32tab", laid_math_bits_deBruijn32tab), ("math/bits.deBruijn64tab", laid_math_bits_deBruijn64tab), ("internal/strconv.uint64pow10", laid_internal_strconv_uint64pow10), ("strconv.ErrRange", laid_strconv_ErrRange), ("strconv.ErrSyntax", laid_strconv_ErrSyntax), ("sluiceway/term.kinds", laid_sluiceway_term_kinds)] }
def CookieForgedSaid : Prop := cookieForgedRow.holds Tryd.pinned (OpenSpec.ofChange cookieForgedSpec)

/-- ITS FALSE NEIGHBOUR: 'it returns false'. Refute it at one input. -/
def cookieForgedWrong : ChangeSpec := { name := "cookieForged", fn := fun _ => fun
  | [d1, d2, d3, d4] => { results := [.lit (.bool false)], args := [d1, d2, d3, d4] }
  | _ => none }
def CookieForgedWrongFalsely : Prop := cookieForgedRow.holds Tryd.pinned (OpenSpec.ofChange cookieForgedWrong)

/-- 'sluicewaylaw14.CookieUnlike': WHATEVER THE INPUT: true; the input reads as it did. -/
def cookieUnlikeSpec : ChangeSpec := { name := "cookieUnlike", fn := fun _ => fun
  | [d1, d2, d3, d4] => { results := [.lit (.bool true)], args := [d1, d2, d3, d4] }
  | _ => none }
def cookieUnlikeRow : OpenClaim := { program := "ytgpcbcbmhlgekaadoor", sum := "d5b285ef77d40af9dc2f29d3a01e0e14065280679b4ce2ce7a1bb1bcaa756a03", func := "sluiceway/sluicewaylaw14.CookieUnlike", spec := "cookieUnlike", inPlace := ["internal/abi.NoEscape", "internal/bytealg.MakeNoZero"], unfollowed := true, recurses := true, named := ["sluiceway/term.kinds", "internal/strconv.uint64pow10", "math/bits.deBruijn32tab", "math/bits.deBruijn64tab", "strconv.ErrSyntax", "strconv.ErrRange"], loops := true, apart := false, laid := [("math/bits.deBruijn32tab", laid_math_bits_deBruijn32tab), ("math/bits.deBruijn64tab", laid_math_bits_deBruijn64tab), ("internal/strconv.uint64pow10", laid_internal_strconv_uint64pow10), ("strconv.ErrRange", laid_strconv_ErrRange), ("strconv.ErrSyntax", laid_strconv_ErrSyntax), ("sluiceway/term.kinds", laid_sluiceway_term_kinds)] }
def CookieUnlikeSaid : Prop := cookieUnlikeRow.holds Tryd.pinned (OpenSpec.ofChange cookieUnlikeSpec)

/-- ITS FALSE NEIGHBOUR: 'it returns false'. Refute it at one input. -/
def cookieUnlikeWrong : ChangeSpec := { name := "cookieUnlike", fn := fun _ => fun
  | [d1, d2, d3, d4] => { results := [.lit (.bool false)], args := [d1, d2, d3, d4] }
  | _ => none }
def CookieUnlikeWrongFalsely : Prop := cookieUnlikeRow.holds Tryd.pinned (OpenSpec.ofChange cookieUnlikeWrong)

/-- 'sluicewaylaw14.CookieEnds': WHATEVER THE INPUT: true; the input reads as it did. -/
def cookieEndsSpec : ChangeSpec := { name := "cookieEnds", fn := fun _ => fun
  | [d1, d2, d3, d4] => { results := [.lit (.bool true)], args := [d1, d2, d3, d4] }
  | _ => none }
def cookieEndsRow : OpenClaim := { program := "ytgpcbcbmhlgekaadoor", sum := "d5b285ef77d40af9dc2f29d3a01e0e14065280679b4ce2ce7a1bb1bcaa756a03", func := "sluiceway/sluicewaylaw14.CookieEnds", spec := "cookieEnds", inPlace := ["internal/abi.NoEscape", "internal/bytealg.MakeNoZero"], unfollowed := true, recurses := true, named := ["sluiceway/term.kinds", "internal/strconv.uint64pow10", "math/bits.deBruijn32tab", "math/bits.deBruijn64tab", "strconv.ErrSyntax", "strconv.ErrRange"], loops := true, apart := false, laid := [("math/bits.deBruijn32tab", laid_math_bits_deBruijn32tab), ("math/bits.deBruijn64tab", laid_math_bits_deBruijn64tab), ("internal/strconv.uint64pow10", laid_internal_strconv_uint64pow10), ("strconv.ErrRange", laid_strconv_ErrRange), ("strconv.ErrSyntax", laid_strconv_ErrSyntax), ("sluiceway/term.kinds", laid_sluiceway_term_kinds)] }
def CookieEndsSaid : Prop := cookieEndsRow.holds Tryd.pinned (OpenSpec.ofChange cookieEndsSpec)

/-- ITS FALSE NEIGHBOUR: 'it returns false'. Refute it at one input. -/
def cookieEndsWrong : ChangeSpec := { name := "cookieEnds", fn := fun _ => fun
  | [d1, d2, d3, d4] => { results := [.lit (.bool false)], args := [d1, d2, d3, d4] }
  | _ => none }
def CookieEndsWrongFalsely : Prop := cookieEndsRow.holds Tryd.pinned (OpenSpec.ofChange cookieEndsWrong)

/-- 'sluicewaylaw14.CookieDone': WHATEVER THE INPUT: true; the input reads as it did. -/
def cookieDoneSpec : ChangeSpec := { name := "cookieDone", fn := fun _ => fun
  | [d1, d2, d3] => { results := [.lit (.bool true)], args := [d1, d2, d3] }
  | _ => none }
def cookieDoneRow : OpenClaim := { program := "ytgpcbcbmhlgekaadoor", sum := "d5b285ef77d40af9dc2f29d3a01e0e14065280679b4ce2ce7a1bb1bcaa756a03", func := "sluiceway/sluicewaylaw14.CookieDone", spec := "cookieDone", inPlace := ["internal/abi.NoEscape", "internal/bytealg.MakeNoZero"], unfollowed := true, recurses := true, named := ["sluiceway/term.kinds", "internal/strconv.uint64pow10", "math/bits.deBruijn32tab", "math/bits.deBruijn64tab", "strconv.ErrSyntax", "strconv.ErrRange"], apart := false, laid := [("math/bits.deBruijn32tab", laid_math_bits_deBruijn32tab), ("math/bits.deBruijn64tab", laid_math_bits_deBruijn64tab), ("internal/strconv.uint64pow10", laid_internal_strconv_uint64pow10), ("strconv.ErrRange", laid_strconv_ErrRange), ("strconv.ErrSyntax", laid_strconv_ErrSyntax), ("sluiceway/term.kinds", laid_sluiceway_term_kinds)] }
def CookieDoneSaid : Prop := cookieDoneRow.holds Tryd.pinned (OpenSpec.ofChange cookieDoneSpec)

/-- ITS FALSE NEIGHBOUR: 'it returns false'. Refute it at one input. -/
def cookieDoneWrong : ChangeSpec := { name := "cookieDone", fn := fun _ => fun
  | [d1, d2, d3] => { results := [.lit (.bool false)], args := [d1, d2, d3] }
  | _ => none }
def CookieDoneWrongFalsely : Prop := cookieDoneRow.holds Tryd.pinned (OpenSpec.ofChange cookieDoneWrong)

/-- 'sluicewaylaw14.CookieOthers': WHATEVER THE INPUT: true; the input reads as it did. -/
def cookieOthersSpec : ChangeSpec := { name := "cookieOthers", fn := fun _ => fun
  | [d1, d2] => { results := [.lit (.bool true)], args := [d1, d2] }
  | _ => none }
def cookieOthersRow : OpenClaim := { program := "ytgpcbcbmhlgekaadoor", sum := "d5b285ef77d40af9dc2f29d3a01e0e14065280679b4ce2ce7a1bb1bcaa756a03", func := "sluiceway/sluicewaylaw14.CookieOthers", spec := "cookieOthers", inPlace := ["internal/abi.NoEscape", "internal/bytealg.MakeNoZero"], unfollowed := true, recurses := true, named := ["sluiceway/term.kinds", "internal/strconv.uint64pow10", "math/bits.deBruijn32tab", "math/bits.deBruijn64tab", "strconv.ErrSyntax", "strconv.ErrRange"], loops := true, apart := false, laid := [("math/bits.deBruijn32tab", laid_math_bits_deBruijn32tab), ("math/bits.deBruijn64tab", laid_math_bits_deBruijn64tab), ("internal/strconv.uint64pow10", laid_internal_strconv_uint64pow10), ("strconv.ErrRange", laid_strconv_ErrRange), ("strconv.ErrSyntax", laid_strconv_ErrSyntax), ("sluiceway/term.kinds", laid_sluiceway_term_kinds)] }
def CookieOthersSaid : Prop := cookieOthersRow.holds Tryd.pinned (OpenSpec.ofChange cookieOthersSpec)

/-- ITS FALSE NEIGHBOUR: 'it returns false'. Refute it at one input. -/
def cookieOthersWrong : ChangeSpec := { name := "cookieOthers", fn := fun _ => fun
  | [d1, d2] => { results := [.lit (.bool false)], args := [d1, d2] }
  | _ => none }
def CookieOthersWrongFalsely : Prop := cookieOthersRow.holds Tryd.pinned (OpenSpec.ofChange cookieOthersWrong)

/-- 'sluicewaylaw14.CookieShut': WHATEVER THE INPUT: true; the input reads as it did. -/
def cookieShutSpec : ChangeSpec := { name := "cookieShut", fn := fun _ => fun
  | [d1, d2, d3] => { results := [.lit (.bool true)], args := [d1, d2, d3] }
  | _ => none }
def cookieShutRow : OpenClaim := { program := "ytgpcbcbmhlgekaadoor", sum := "d5b285ef77d40af9dc2f29d3a01e0e14065280679b4ce2ce7a1bb1bcaa756a03", func := "sluiceway/sluicewaylaw14.CookieShut", spec := "cookieShut", inPlace := ["internal/abi.NoEscape", "internal/bytealg.MakeNoZero"], unfollowed := true, recurses := true, named := ["sluiceway/term.kinds", "internal/strconv.uint64pow10", "math/bits.deBruijn32tab", "math/bits.deBruijn64tab", "strconv.ErrSyntax", "strconv.ErrRange"], loops := true, apart := false, laid := [("math/bits.deBruijn32tab", laid_math_bits_deBruijn32tab), ("math/bits.deBruijn64tab", laid_math_bits_deBruijn64tab), ("internal/strconv.uint64pow10", laid_internal_strconv_uint64pow10), ("strconv.ErrRange", laid_strconv_ErrRange), ("strconv.ErrSyntax", laid_strconv_ErrSyntax), ("sluiceway/term.kinds", laid_sluiceway_term_kinds)] }
def CookieShutSaid : Prop := cookieShutRow.holds Tryd.pinned (OpenSpec.ofChange cookieShutSpec)

/-- ITS FALSE NEIGHBOUR: 'it returns false'. Refute it at one input. -/
def cookieShutWrong : ChangeSpec := { name := "cookieShut", fn := fun _ => fun
  | [d1, d2, d3] => { results := [.lit (.bool false)], args := [d1, d2, d3] }
  | _ => none }
def CookieShutWrongFalsely : Prop := cookieShutRow.holds Tryd.pinned (OpenSpec.ofChange cookieShutWrong)

/-- 'sluicewaylaw15.MessageKnown': WHATEVER THE INPUT: true; the input reads as it did. -/
def messageKnownSpec : ChangeSpec := { name := "messageKnown", fn := fun _ => fun
  | [d1, d2, d3] => { results := [.lit (.bool true)], args := [d1, d2, d3] }
  | _ => none }
def messageKnownRow : OpenClaim := { program := "ytgpcbcbmhlgekaadoor", sum := "d5b285ef77d40af9dc2f29d3a01e0e14065280679b4ce2ce7a1bb1bcaa756a03", func := "sluiceway/sluicewaylaw15.MessageKnown", spec := "messageKnown", inPlace := ["internal/abi.NoEscape", "internal/bytealg.MakeNoZero"], unfollowed := true, recurses := true, named := ["internal/strconv.uint64pow10", "math/bits.deBruijn32tab", "math/bits.deBruijn64tab", "strconv.ErrSyntax", "strconv.ErrRange", "sluiceway/term.kinds"], apart := false, laid := [("math/bits.deBruijn32tab", laid_math_bits_deBruijn32tab), ("math/bits.deBruijn64tab", laid_math_bits_deBruijn64tab), ("internal/strconv.uint64pow10", laid_internal_strconv_uint64pow10), ("strconv.ErrRange", laid_strconv_ErrRange), ("strconv.ErrSyntax", laid_strconv_ErrSyntax), ("sluiceway/term.kinds", laid_sluiceway_term_kinds)] }
def MessageKnownSaid : Prop := messageKnownRow.holds Tryd.pinned (OpenSpec.ofChange messageKnownSpec)

/-- ITS FALSE NEIGHBOUR: 'it returns false'. Refute it at one input. -/
def messageKnownWrong : ChangeSpec := { name := "messageKnown", fn := fun _ => fun
  | [d1, d2, d3] => { results := [.lit (.bool false)], args := [d1, d2, d3] }
  | _ => none }
def MessageKnownWrongFalsely : Prop := messageKnownRow.holds Tryd.pinned (OpenSpec.ofChange messageKnownWrong)

/- THE SECOND FORM. 'bulk': how many values and letters a reading holds, each counted each time it is reached (what is shared counts as often as it is met; a slice's spare places count too). A statement '..UptoSaid' is the law's where the arguments, and the package variables that the reading takes, are together of bulk at most 1048576: NARROWER than '..Said'. Prove '..Said' where nothing that the law and all that it calls make is longer than what came in: it says more and counts as full. Else prove '..UptoSaid'. A law counts once. -/
mutual
def uptoBulk {H : Type} : DataW H → Nat
  | .lit (.string bytes) => bytes.length + 1
  | .lit _ => 1
  | .nil => 1
  | .ptr d => uptoBulk d + 1
  | .slice elems spare => uptoBulkAll elems + uptoBulkAll spare + 1
  | .agg parts => uptoBulkAll parts + 1
  | .iface _ d => uptoBulk d + 1
  | .map entries => uptoBulkEntries entries + 1
  | .held _ => 1
def uptoBulkAll {H : Type} : List (DataW H) → Nat
  | [] => 0
  | d :: r => uptoBulk d + uptoBulkAll r
def uptoBulkEntries {H : Type} : List (Lit × DataW H) → Nat
  | [] => 0
  | x :: r => uptoBulkEntry x + uptoBulkEntries r
def uptoBulkEntry {H : Type} : Lit × DataW H → Nat
  | (.string bytes, d) => bytes.length + uptoBulk d + 1
  | (_, d) => uptoBulk d + 1
 end
def uptoSmall : (H : Type) → List (DataW H) → Bool := fun _ ds => decide (uptoBulkAll ds ≤ 1048576)
def OpenSpec.upto (s : _root_.Go.ChangeSpec) : _root_.Go.OpenSpec := { _root_.Go.OpenSpec.ofChange s with cond := some uptoSmall }

/-- 'sluicewaylaw15.MessageMakes', WHERE WHAT IT READS IS OF BULK AT MOST 1048576: true; the input reads as it did. -/
def messageMakesUptoRow : OpenClaim := { program := "ytgpcbcbmhlgekaadoor", sum := "d5b285ef77d40af9dc2f29d3a01e0e14065280679b4ce2ce7a1bb1bcaa756a03", func := "sluiceway/sluicewaylaw15.MessageMakes", spec := "messageMakes", recurses := true, named := ["internal/strconv.uint64pow10", "math/bits.deBruijn32tab", "math/bits.deBruijn64tab", "strconv.ErrSyntax", "strconv.ErrRange"], loops := true, apart := false, laid := [("math/bits.deBruijn32tab", laid_math_bits_deBruijn32tab), ("math/bits.deBruijn64tab", laid_math_bits_deBruijn64tab), ("internal/strconv.uint64pow10", laid_internal_strconv_uint64pow10), ("strconv.ErrRange", laid_strconv_ErrRange), ("strconv.ErrSyntax", laid_strconv_ErrSyntax)], narrowed := true }
def MessageMakesUptoSaid : Prop := messageMakesUptoRow.holds Tryd.pinned (OpenSpec.upto messageMakesSpec)

/-- 'sluicewaylaw15.MessageReads', WHERE WHAT IT READS IS OF BULK AT MOST 1048576: true; the input reads as it did. -/
def messageReadsUptoRow : OpenClaim := { program := "ytgpcbcbmhlgekaadoor", sum := "d5b285ef77d40af9dc2f29d3a01e0e14065280679b4ce2ce7a1bb1bcaa756a03", func := "sluiceway/sluicewaylaw15.MessageReads", spec := "messageReads", recurses := true, named := ["internal/strconv.uint64pow10", "math/bits.deBruijn32tab", "math/bits.deBruijn64tab", "strconv.ErrSyntax", "strconv.ErrRange"], loops := true, apart := false, laid := [("math/bits.deBruijn32tab", laid_math_bits_deBruijn32tab), ("math/bits.deBruijn64tab", laid_math_bits_deBruijn64tab), ("internal/strconv.uint64pow10", laid_internal_strconv_uint64pow10), ("strconv.ErrRange", laid_strconv_ErrRange), ("strconv.ErrSyntax", laid_strconv_ErrSyntax)], narrowed := true }
def MessageReadsUptoSaid : Prop := messageReadsUptoRow.holds Tryd.pinned (OpenSpec.upto messageReadsSpec)

/-- 'sluicewaylaw15.MessageBack', WHERE WHAT IT READS IS OF BULK AT MOST 1048576: true; the input reads as it did. -/
def messageBackUptoRow : OpenClaim := { program := "ytgpcbcbmhlgekaadoor", sum := "d5b285ef77d40af9dc2f29d3a01e0e14065280679b4ce2ce7a1bb1bcaa756a03", func := "sluiceway/sluicewaylaw15.MessageBack", spec := "messageBack", recurses := true, named := ["internal/strconv.uint64pow10", "math/bits.deBruijn32tab", "math/bits.deBruijn64tab", "strconv.ErrSyntax", "strconv.ErrRange"], loops := true, apart := false, laid := [("math/bits.deBruijn32tab", laid_math_bits_deBruijn32tab), ("math/bits.deBruijn64tab", laid_math_bits_deBruijn64tab), ("internal/strconv.uint64pow10", laid_internal_strconv_uint64pow10), ("strconv.ErrRange", laid_strconv_ErrRange), ("strconv.ErrSyntax", laid_strconv_ErrSyntax)], narrowed := true }
def MessageBackUptoSaid : Prop := messageBackUptoRow.holds Tryd.pinned (OpenSpec.upto messageBackSpec)

/-- 'sluicewaylaw15.MessageOnly', WHERE WHAT IT READS IS OF BULK AT MOST 1048576: true; the input reads as it did. -/
def messageOnlyUptoRow : OpenClaim := { program := "ytgpcbcbmhlgekaadoor", sum := "d5b285ef77d40af9dc2f29d3a01e0e14065280679b4ce2ce7a1bb1bcaa756a03", func := "sluiceway/sluicewaylaw15.MessageOnly", spec := "messageOnly", recurses := true, named := ["internal/strconv.uint64pow10", "math/bits.deBruijn32tab", "math/bits.deBruijn64tab", "strconv.ErrSyntax", "strconv.ErrRange"], loops := true, apart := false, laid := [("math/bits.deBruijn32tab", laid_math_bits_deBruijn32tab), ("math/bits.deBruijn64tab", laid_math_bits_deBruijn64tab), ("internal/strconv.uint64pow10", laid_internal_strconv_uint64pow10), ("strconv.ErrRange", laid_strconv_ErrRange), ("strconv.ErrSyntax", laid_strconv_ErrSyntax)], narrowed := true }
def MessageOnlyUptoSaid : Prop := messageOnlyUptoRow.holds Tryd.pinned (OpenSpec.upto messageOnlySpec)

/-- 'sluicewaylaw14.CookieTells', WHERE WHAT IT READS IS OF BULK AT MOST 1048576: true; the input reads as it did. -/
def cookieTellsUptoRow : OpenClaim := { program := "ytgpcbcbmhlgekaadoor", sum := "d5b285ef77d40af9dc2f29d3a01e0e14065280679b4ce2ce7a1bb1bcaa756a03", func := "sluiceway/sluicewaylaw14.CookieTells", spec := "cookieTells", inPlace := ["internal/abi.NoEscape", "internal/bytealg.MakeNoZero"], unfollowed := true, recurses := true, named := ["sluiceway/term.kinds", "internal/strconv.uint64pow10", "math/bits.deBruijn32tab", "math/bits.deBruijn64tab", "strconv.ErrSyntax", "strconv.ErrRange"], loops := true, apart := false, laid := [("math/bits.deBruijn32tab", laid_math_bits_deBruijn32tab), ("math/bits.deBruijn64tab", laid_math_bits_deBruijn64tab), ("internal/strconv.uint64pow10", laid_internal_strconv_uint64pow10), ("strconv.ErrRange", laid_strconv_ErrRange), ("strconv.ErrSyntax", laid_strconv_ErrSyntax), ("sluiceway/term.kinds", laid_sluiceway_term_kinds)], narrowed := true }
def CookieTellsUptoSaid : Prop := cookieTellsUptoRow.holds Tryd.pinned (OpenSpec.upto cookieTellsSpec)

/-- 'sluicewaylaw14.CookieBack', WHERE WHAT IT READS IS OF BULK AT MOST 1048576: true; the input reads as it did. -/
def cookieBackUptoRow : OpenClaim := { program := "ytgpcbcbmhlgekaadoor", sum := "d5b285ef77d40af9dc2f29d3a01e0e14065280679b4ce2ce7a1bb1bcaa756a03", func := "sluiceway/sluicewaylaw14.CookieBack", spec := "cookieBack", inPlace := ["internal/abi.NoEscape", "internal/bytealg.MakeNoZero"], unfollowed := true, recurses := true, named := ["sluiceway/term.kinds", "internal/strconv.uint64pow10", "math/bits.deBruijn32tab", "math/bits.deBruijn64tab", "strconv.ErrSyntax", "strconv.ErrRange"], loops := true, apart := false, laid := [("math/bits.deBruijn32tab", laid_math_bits_deBruijn32tab), ("math/bits.deBruijn64tab", laid_math_bits_deBruijn64tab), ("internal/strconv.uint64pow10", laid_internal_strconv_uint64pow10), ("strconv.ErrRange", laid_strconv_ErrRange), ("strconv.ErrSyntax", laid_strconv_ErrSyntax), ("sluiceway/term.kinds", laid_sluiceway_term_kinds)], narrowed := true }
def CookieBackUptoSaid : Prop := cookieBackUptoRow.holds Tryd.pinned (OpenSpec.upto cookieBackSpec)

/-- 'sluicewaylaw14.CookieForged', WHERE WHAT IT READS IS OF BULK AT MOST 1048576: true; the input reads as it did. -/
def cookieForgedUptoRow : OpenClaim := { program := "ytgpcbcbmhlgekaadoor", sum := "d5b285ef77d40af9dc2f29d3a01e0e14065280679b4ce2ce7a1bb1bcaa756a03", func := "sluiceway/sluicewaylaw14.CookieForged", spec := "cookieForged", inPlace := ["internal/abi.NoEscape", "internal/bytealg.MakeNoZero"], unfollowed := true, recurses := true, named := ["sluiceway/term.kinds", "internal/strconv.uint64pow10", "math/bits.deBruijn32tab", "math/bits.deBruijn64tab", "strconv.ErrSyntax", "strconv.ErrRange"], loops := true, apart := false, laid := [("math/bits.deBruijn32tab", laid_math_bits_deBruijn32tab), ("math/bits.deBruijn64tab", laid_math_bits_deBruijn64tab), ("internal/strconv.uint64pow10", laid_internal_strconv_uint64pow10), ("strconv.ErrRange", laid_strconv_ErrRange), ("strconv.ErrSyntax", laid_strconv_ErrSyntax), ("sluiceway/term.kinds", laid_sluiceway_term_kinds)], narrowed := true }
def CookieForgedUptoSaid : Prop := cookieForgedUptoRow.holds Tryd.pinned (OpenSpec.upto cookieForgedSpec)

/-- 'sluicewaylaw14.CookieUnlike', WHERE WHAT IT READS IS OF BULK AT MOST 1048576: true; the input reads as it did. -/
def cookieUnlikeUptoRow : OpenClaim := { program := "ytgpcbcbmhlgekaadoor", sum := "d5b285ef77d40af9dc2f29d3a01e0e14065280679b4ce2ce7a1bb1bcaa756a03", func := "sluiceway/sluicewaylaw14.CookieUnlike", spec := "cookieUnlike", inPlace := ["internal/abi.NoEscape", "internal/bytealg.MakeNoZero"], unfollowed := true, recurses := true, named := ["sluiceway/term.kinds", "internal/strconv.uint64pow10", "math/bits.deBruijn32tab", "math/bits.deBruijn64tab", "strconv.ErrSyntax", "strconv.ErrRange"], loops := true, apart := false, laid := [("math/bits.deBruijn32tab", laid_math_bits_deBruijn32tab), ("math/bits.deBruijn64tab", laid_math_bits_deBruijn64tab), ("internal/strconv.uint64pow10", laid_internal_strconv_uint64pow10), ("strconv.ErrRange", laid_strconv_ErrRange), ("strconv.ErrSyntax", laid_strconv_ErrSyntax), ("sluiceway/term.kinds", laid_sluiceway_term_kinds)], narrowed := true }
def CookieUnlikeUptoSaid : Prop := cookieUnlikeUptoRow.holds Tryd.pinned (OpenSpec.upto cookieUnlikeSpec)

/-- 'sluicewaylaw14.CookieEnds', WHERE WHAT IT READS IS OF BULK AT MOST 1048576: true; the input reads as it did. -/
def cookieEndsUptoRow : OpenClaim := { program := "ytgpcbcbmhlgekaadoor", sum := "d5b285ef77d40af9dc2f29d3a01e0e14065280679b4ce2ce7a1bb1bcaa756a03", func := "sluiceway/sluicewaylaw14.CookieEnds", spec := "cookieEnds", inPlace := ["internal/abi.NoEscape", "internal/bytealg.MakeNoZero"], unfollowed := true, recurses := true, named := ["sluiceway/term.kinds", "internal/strconv.uint64pow10", "math/bits.deBruijn32tab", "math/bits.deBruijn64tab", "strconv.ErrSyntax", "strconv.ErrRange"], loops := true, apart := false, laid := [("math/bits.deBruijn32tab", laid_math_bits_deBruijn32tab), ("math/bits.deBruijn64tab", laid_math_bits_deBruijn64tab), ("internal/strconv.uint64pow10", laid_internal_strconv_uint64pow10), ("strconv.ErrRange", laid_strconv_ErrRange), ("strconv.ErrSyntax", laid_strconv_ErrSyntax), ("sluiceway/term.kinds", laid_sluiceway_term_kinds)], narrowed := true }
def CookieEndsUptoSaid : Prop := cookieEndsUptoRow.holds Tryd.pinned (OpenSpec.upto cookieEndsSpec)

/-- 'sluicewaylaw14.CookieDone', WHERE WHAT IT READS IS OF BULK AT MOST 1048576: true; the input reads as it did. -/
def cookieDoneUptoRow : OpenClaim := { program := "ytgpcbcbmhlgekaadoor", sum := "d5b285ef77d40af9dc2f29d3a01e0e14065280679b4ce2ce7a1bb1bcaa756a03", func := "sluiceway/sluicewaylaw14.CookieDone", spec := "cookieDone", inPlace := ["internal/abi.NoEscape", "internal/bytealg.MakeNoZero"], unfollowed := true, recurses := true, named := ["sluiceway/term.kinds", "internal/strconv.uint64pow10", "math/bits.deBruijn32tab", "math/bits.deBruijn64tab", "strconv.ErrSyntax", "strconv.ErrRange"], apart := false, laid := [("math/bits.deBruijn32tab", laid_math_bits_deBruijn32tab), ("math/bits.deBruijn64tab", laid_math_bits_deBruijn64tab), ("internal/strconv.uint64pow10", laid_internal_strconv_uint64pow10), ("strconv.ErrRange", laid_strconv_ErrRange), ("strconv.ErrSyntax", laid_strconv_ErrSyntax), ("sluiceway/term.kinds", laid_sluiceway_term_kinds)], narrowed := true }
def CookieDoneUptoSaid : Prop := cookieDoneUptoRow.holds Tryd.pinned (OpenSpec.upto cookieDoneSpec)

/-- 'sluicewaylaw14.CookieOthers', WHERE WHAT IT READS IS OF BULK AT MOST 1048576: true; the input reads as it did. -/
def cookieOthersUptoRow : OpenClaim := { program := "ytgpcbcbmhlgekaadoor", sum := "d5b285ef77d40af9dc2f29d3a01e0e14065280679b4ce2ce7a1bb1bcaa756a03", func := "sluiceway/sluicewaylaw14.CookieOthers", spec := "cookieOthers", inPlace := ["internal/abi.NoEscape", "internal/bytealg.MakeNoZero"], unfollowed := true, recurses := true, named := ["sluiceway/term.kinds", "internal/strconv.uint64pow10", "math/bits.deBruijn32tab", "math/bits.deBruijn64tab", "strconv.ErrSyntax", "strconv.ErrRange"], loops := true, apart := false, laid := [("math/bits.deBruijn32tab", laid_math_bits_deBruijn32tab), ("math/bits.deBruijn64tab", laid_math_bits_deBruijn64tab), ("internal/strconv.uint64pow10", laid_internal_strconv_uint64pow10), ("strconv.ErrRange", laid_strconv_ErrRange), ("strconv.ErrSyntax", laid_strconv_ErrSyntax), ("sluiceway/term.kinds", laid_sluiceway_term_kinds)], narrowed := true }
def CookieOthersUptoSaid : Prop := cookieOthersUptoRow.holds Tryd.pinned (OpenSpec.upto cookieOthersSpec)

/-- 'sluicewaylaw14.CookieShut', WHERE WHAT IT READS IS OF BULK AT MOST 1048576: true; the input reads as it did. -/
def cookieShutUptoRow : OpenClaim := { program := "ytgpcbcbmhlgekaadoor", sum := "d5b285ef77d40af9dc2f29d3a01e0e14065280679b4ce2ce7a1bb1bcaa756a03", func := "sluiceway/sluicewaylaw14.CookieShut", spec := "cookieShut", inPlace := ["internal/abi.NoEscape", "internal/bytealg.MakeNoZero"], unfollowed := true, recurses := true, named := ["sluiceway/term.kinds", "internal/strconv.uint64pow10", "math/bits.deBruijn32tab", "math/bits.deBruijn64tab", "strconv.ErrSyntax", "strconv.ErrRange"], loops := true, apart := false, laid := [("math/bits.deBruijn32tab", laid_math_bits_deBruijn32tab), ("math/bits.deBruijn64tab", laid_math_bits_deBruijn64tab), ("internal/strconv.uint64pow10", laid_internal_strconv_uint64pow10), ("strconv.ErrRange", laid_strconv_ErrRange), ("strconv.ErrSyntax", laid_strconv_ErrSyntax), ("sluiceway/term.kinds", laid_sluiceway_term_kinds)], narrowed := true }
def CookieShutUptoSaid : Prop := cookieShutUptoRow.holds Tryd.pinned (OpenSpec.upto cookieShutSpec)

/-- 'sluicewaylaw15.MessageKnown', WHERE WHAT IT READS IS OF BULK AT MOST 1048576: true; the input reads as it did. -/
def messageKnownUptoRow : OpenClaim := { program := "ytgpcbcbmhlgekaadoor", sum := "d5b285ef77d40af9dc2f29d3a01e0e14065280679b4ce2ce7a1bb1bcaa756a03", func := "sluiceway/sluicewaylaw15.MessageKnown", spec := "messageKnown", inPlace := ["internal/abi.NoEscape", "internal/bytealg.MakeNoZero"], unfollowed := true, recurses := true, named := ["internal/strconv.uint64pow10", "math/bits.deBruijn32tab", "math/bits.deBruijn64tab", "strconv.ErrSyntax", "strconv.ErrRange", "sluiceway/term.kinds"], apart := false, laid := [("math/bits.deBruijn32tab", laid_math_bits_deBruijn32tab), ("math/bits.deBruijn64tab", laid_math_bits_deBruijn64tab), ("internal/strconv.uint64pow10", laid_internal_strconv_uint64pow10), ("strconv.ErrRange", laid_strconv_ErrRange), ("strconv.ErrSyntax", laid_strconv_ErrSyntax), ("sluiceway/term.kinds", laid_sluiceway_term_kinds)], narrowed := true }
def MessageKnownUptoSaid : Prop := messageKnownUptoRow.holds Tryd.pinned (OpenSpec.upto messageKnownSpec)

end Rows
end Go.Proofs.YtgpcbcbmhlgekaaDoor
