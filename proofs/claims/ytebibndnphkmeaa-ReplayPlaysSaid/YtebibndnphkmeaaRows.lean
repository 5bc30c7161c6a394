/-
  No cell of these rows narrows 'for every input' (looked for: loops, veiled, ifaces, maps, wideKeys, modest, calm, conditions, laid).
  DERIVED. THE GIVEN ROWS OF THIS SEAT. 9 by the template 'for every input the law returns true; each argument reads behind the call as it read before'; 0 by the template 'total and deterministic' (their statements: YtebibndnphkmeaaTotals.lean).
  GIVEN WITH THE SEED: the statements are not yours to turn. If you find one false, say at which input.
  Laid BY PROGRAM, IN A SANDBOX (cutbox-rows.mjs): the forced cells as the released guide's own fill.sh prints them over the translation 0b82e0b4498be2b9… (all of the seat's roots in one cut). By AI agents, Wed Nov 11 2026. No macro, syntax, notation, axiom, sorry.
-/
import Derived.Test.YtebibndnphkmeaaChecked
import GoSem.Claim
import GoSem.ClaimJoined
import GoSem.ClaimMapViews
import Derived.JoinedTies
import Derived.KernelRfl
namespace Go.Proofs.Ytebibndnphkmeaa
/- THE CELL 'sum', in the pinned program and in every row, IS THE sha256 OF THE DUMP (.gsa) THAT YtebibndnphkmeaaProg.lean LOADS. Nothing in Lean hashes anything: it is a label: what it is worth is what the hold of that sum in a sandbox is worth. -/
noncomputable def Try.pinned : Pinned := { name := "ytebibndnphkmeaa", sum := "0b82e0b4498be2b9154b14e1695b95703d254df064dfa93f65d7230ba589c356", checked := Try.checked }
namespace Rows
def none {H : Type} : Left H := { results := [], args := [] }

/-- 'sluicewaylaw13.ReplayOnce': WHATEVER THE INPUT: true; the input reads as it did. -/
def replayOnceSpec : ChangeSpec := { name := "replayOnce", fn := fun _ => fun
  | [d] => { results := [.lit (.bool true)], args := [d] }
  | _ => none }
def replayOnceRow : OpenClaim := { program := "ytebibndnphkmeaa", sum := "0b82e0b4498be2b9154b14e1695b95703d254df064dfa93f65d7230ba589c356", func := "sluiceway/sluicewaylaw13.ReplayOnce", spec := "replayOnce", apart := false }
def ReplayOnceSaid : Prop := replayOnceRow.holds Try.pinned (OpenSpec.ofChange replayOnceSpec)

/-- ITS FALSE NEIGHBOUR: 'it returns false'. Refute it at one input. -/
def replayOnceWrong : ChangeSpec := { name := "replayOnce", fn := fun _ => fun
  | [d] => { results := [.lit (.bool false)], args := [d] }
  | _ => none }
def ReplayOnceWrongFalsely : Prop := replayOnceRow.holds Try.pinned (OpenSpec.ofChange replayOnceWrong)

/-- 'sluicewaylaw13.ReplayFull': WHATEVER THE INPUT: true; the input reads as it did. -/
def replayFullSpec : ChangeSpec := { name := "replayFull", fn := fun _ => fun
  | [d1, d2] => { results := [.lit (.bool true)], args := [d1, d2] }
  | _ => none }
def replayFullRow : OpenClaim := { program := "ytebibndnphkmeaa", sum := "0b82e0b4498be2b9154b14e1695b95703d254df064dfa93f65d7230ba589c356", func := "sluiceway/sluicewaylaw13.ReplayFull", spec := "replayFull", apart := false }
def ReplayFullSaid : Prop := replayFullRow.holds Try.pinned (OpenSpec.ofChange replayFullSpec)

/-- ITS FALSE NEIGHBOUR: 'it returns false'. Refute it at one input. -/
def replayFullWrong : ChangeSpec := { name := "replayFull", fn := fun _ => fun
  | [d1, d2] => { results := [.lit (.bool false)], args := [d1, d2] }
  | _ => none }
def ReplayFullWrongFalsely : Prop := replayFullRow.holds Try.pinned (OpenSpec.ofChange replayFullWrong)

/-- 'sluicewaylaw13.ReplayApart': WHATEVER THE INPUT: true; the input reads as it did. -/
def replayApartSpec : ChangeSpec := { name := "replayApart", fn := fun _ => fun
  | [d1, d2] => { results := [.lit (.bool true)], args := [d1, d2] }
  | _ => none }
def replayApartRow : OpenClaim := { program := "ytebibndnphkmeaa", sum := "0b82e0b4498be2b9154b14e1695b95703d254df064dfa93f65d7230ba589c356", func := "sluiceway/sluicewaylaw13.ReplayApart", spec := "replayApart", apart := false }
def ReplayApartSaid : Prop := replayApartRow.holds Try.pinned (OpenSpec.ofChange replayApartSpec)

/-- ITS FALSE NEIGHBOUR: 'it returns false'. Refute it at one input. -/
def replayApartWrong : ChangeSpec := { name := "replayApart", fn := fun _ => fun
  | [d1, d2] => { results := [.lit (.bool false)], args := [d1, d2] }
  | _ => none }
def ReplayApartWrongFalsely : Prop := replayApartRow.holds Try.pinned (OpenSpec.ofChange replayApartWrong)

/-- 'sluicewaylaw13.ReplayLonger': WHATEVER THE INPUT: true; the input reads as it did. -/
def replayLongerSpec : ChangeSpec := { name := "replayLonger", fn := fun _ => fun
  | [d1, d2, d3, d4] => { results := [.lit (.bool true)], args := [d1, d2, d3, d4] }
  | _ => none }
def replayLongerRow : OpenClaim := { program := "ytebibndnphkmeaa", sum := "0b82e0b4498be2b9154b14e1695b95703d254df064dfa93f65d7230ba589c356", func := "sluiceway/sluicewaylaw13.ReplayLonger", spec := "replayLonger", apart := false }
def ReplayLongerSaid : Prop := replayLongerRow.holds Try.pinned (OpenSpec.ofChange replayLongerSpec)

/-- ITS FALSE NEIGHBOUR: 'it returns false'. Refute it at one input. -/
def replayLongerWrong : ChangeSpec := { name := "replayLonger", fn := fun _ => fun
  | [d1, d2, d3, d4] => { results := [.lit (.bool false)], args := [d1, d2, d3, d4] }
  | _ => none }
def ReplayLongerWrongFalsely : Prop := replayLongerRow.holds Try.pinned (OpenSpec.ofChange replayLongerWrong)

/-- 'sluicewaylaw13.ReplayPlays': WHATEVER THE INPUT: true; the input reads as it did. -/
def replayPlaysSpec : ChangeSpec := { name := "replayPlays", fn := fun _ => fun
  | [d1, d2] => { results := [.lit (.bool true)], args := [d1, d2] }
  | _ => none }
def replayPlaysRow : OpenClaim := { program := "ytebibndnphkmeaa", sum := "0b82e0b4498be2b9154b14e1695b95703d254df064dfa93f65d7230ba589c356", func := "sluiceway/sluicewaylaw13.ReplayPlays", spec := "replayPlays", recurses := true, apart := false }
def ReplayPlaysSaid : Prop := replayPlaysRow.holds Try.pinned (OpenSpec.ofChange replayPlaysSpec)

/-- ITS FALSE NEIGHBOUR: 'it returns false'. Refute it at one input. -/
def replayPlaysWrong : ChangeSpec := { name := "replayPlays", fn := fun _ => fun
  | [d1, d2] => { results := [.lit (.bool false)], args := [d1, d2] }
  | _ => none }
def ReplayPlaysWrongFalsely : Prop := replayPlaysRow.holds Try.pinned (OpenSpec.ofChange replayPlaysWrong)

/-- 'sluicewaylaw13.ReplayOver': WHATEVER THE INPUT: true; the input reads as it did. -/
def replayOverSpec : ChangeSpec := { name := "replayOver", fn := fun _ => fun
  | [d1, d2] => { results := [.lit (.bool true)], args := [d1, d2] }
  | _ => none }
def replayOverRow : OpenClaim := { program := "ytebibndnphkmeaa", sum := "0b82e0b4498be2b9154b14e1695b95703d254df064dfa93f65d7230ba589c356", func := "sluiceway/sluicewaylaw13.ReplayOver", spec := "replayOver", recurses := true, apart := false }
def ReplayOverSaid : Prop := replayOverRow.holds Try.pinned (OpenSpec.ofChange replayOverSpec)

/-- ITS FALSE NEIGHBOUR: 'it returns false'. Refute it at one input. -/
def replayOverWrong : ChangeSpec := { name := "replayOver", fn := fun _ => fun
  | [d1, d2] => { results := [.lit (.bool false)], args := [d1, d2] }
  | _ => none }
def ReplayOverWrongFalsely : Prop := replayOverRow.holds Try.pinned (OpenSpec.ofChange replayOverWrong)

/-- 'sluicewaylaw13.ReplayOrder': WHATEVER THE INPUT: true; the input reads as it did. -/
def replayOrderSpec : ChangeSpec := { name := "replayOrder", fn := fun _ => fun
  | [d1, d2] => { results := [.lit (.bool true)], args := [d1, d2] }
  | _ => none }
def replayOrderRow : OpenClaim := { program := "ytebibndnphkmeaa", sum := "0b82e0b4498be2b9154b14e1695b95703d254df064dfa93f65d7230ba589c356", func := "sluiceway/sluicewaylaw13.ReplayOrder", spec := "replayOrder", recurses := true, apart := false }
def ReplayOrderSaid : Prop := replayOrderRow.holds Try.pinned (OpenSpec.ofChange replayOrderSpec)

/-- ITS FALSE NEIGHBOUR: 'it returns false'. Refute it at one input. -/
def replayOrderWrong : ChangeSpec := { name := "replayOrder", fn := fun _ => fun
  | [d1, d2] => { results := [.lit (.bool false)], args := [d1, d2] }
  | _ => none }
def ReplayOrderWrongFalsely : Prop := replayOrderRow.holds Try.pinned (OpenSpec.ofChange replayOrderWrong)

/-- 'sluicewaylaw13.ReplayLate': WHATEVER THE INPUT: true; the input reads as it did. -/
def replayLateSpec : ChangeSpec := { name := "replayLate", fn := fun _ => fun
  | [d1, d2, d3, d4, d5] => { results := [.lit (.bool true)], args := [d1, d2, d3, d4, d5] }
  | _ => none }
def replayLateRow : OpenClaim := { program := "ytebibndnphkmeaa", sum := "0b82e0b4498be2b9154b14e1695b95703d254df064dfa93f65d7230ba589c356", func := "sluiceway/sluicewaylaw13.ReplayLate", spec := "replayLate", recurses := true, apart := false }
def ReplayLateSaid : Prop := replayLateRow.holds Try.pinned (OpenSpec.ofChange replayLateSpec)

/-- ITS FALSE NEIGHBOUR: 'it returns false'. Refute it at one input. -/
def replayLateWrong : ChangeSpec := { name := "replayLate", fn := fun _ => fun
  | [d1, d2, d3, d4, d5] => { results := [.lit (.bool false)], args := [d1, d2, d3, d4, d5] }
  | _ => none }
def ReplayLateWrongFalsely : Prop := replayLateRow.holds Try.pinned (OpenSpec.ofChange replayLateWrong)

/-- 'sluicewaylaw13.ReplayNames': WHATEVER THE INPUT: true; the input reads as it did. -/
def replayNamesSpec : ChangeSpec := { name := "replayNames", fn := fun _ => fun
  | [d1, d2] => { results := [.lit (.bool true)], args := [d1, d2] }
  | _ => none }
def replayNamesRow : OpenClaim := { program := "ytebibndnphkmeaa", sum := "0b82e0b4498be2b9154b14e1695b95703d254df064dfa93f65d7230ba589c356", func := "sluiceway/sluicewaylaw13.ReplayNames", spec := "replayNames", recurses := true, apart := false }
def ReplayNamesSaid : Prop := replayNamesRow.holds Try.pinned (OpenSpec.ofChange replayNamesSpec)

/-- ITS FALSE NEIGHBOUR: 'it returns false'. Refute it at one input. -/
def replayNamesWrong : ChangeSpec := { name := "replayNames", fn := fun _ => fun
  | [d1, d2] => { results := [.lit (.bool false)], args := [d1, d2] }
  | _ => none }
def ReplayNamesWrongFalsely : Prop := replayNamesRow.holds Try.pinned (OpenSpec.ofChange replayNamesWrong)

/- THE SECOND FORM. 'bulk': how many values and letters a reading holds, each counted each time it is reached (what is shared counts as often as it is met; a slice's spare places count too). A statement '..UptoSaid' is the law's where the arguments, and the package variables that the reading takes, are together of bulk at most 1048576: NARROWER than '..Said'. Prove '..Said' where nothing that the law and all that it calls make is longer than what came in: it says more and counts as full. Else prove '..UptoSaid'. A law counts once. -/
mutual
def uptoBulk {H : Type} : DataW H → Nat
  | .lit (.string bytes) => bytes.length + 1
  | .lit _ => 1
  | .nil => 1
  | .ptr d => uptoBulk d + 1
  | .slice elems spare => uptoBulkAll elems + uptoBulkAll spare + 1
  | .agg parts => uptoBulkAll parts + 1
  | .iface _ d => uptoBulk d + 1
  | .map entries => uptoBulkEntries entries + 1
  | .held _ => 1
def uptoBulkAll {H : Type} : List (DataW H) → Nat
  | [] => 0
  | d :: r => uptoBulk d + uptoBulkAll r
def uptoBulkEntries {H : Type} : List (Lit × DataW H) → Nat
  | [] => 0
  | x :: r => uptoBulkEntry x + uptoBulkEntries r
def uptoBulkEntry {H : Type} : Lit × DataW H → Nat
  | (.string bytes, d) => bytes.length + uptoBulk d + 1
  | (_, d) => uptoBulk d + 1
 end
def uptoSmall : (H : Type) → List (DataW H) → Bool := fun _ ds => decide (uptoBulkAll ds ≤ 1048576)
def OpenSpec.upto (s : _root_.Go.ChangeSpec) : _root_.Go.OpenSpec := { _root_.Go.OpenSpec.ofChange s with cond := some uptoSmall }

/-- 'sluicewaylaw13.ReplayOnce', WHERE WHAT IT READS IS OF BULK AT MOST 1048576: true; the input reads as it did. -/
def replayOnceUptoRow : OpenClaim := { program := "ytebibndnphkmeaa", sum := "0b82e0b4498be2b9154b14e1695b95703d254df064dfa93f65d7230ba589c356", func := "sluiceway/sluicewaylaw13.ReplayOnce", spec := "replayOnce", apart := false, narrowed := true }
def ReplayOnceUptoSaid : Prop := replayOnceUptoRow.holds Try.pinned (OpenSpec.upto replayOnceSpec)

/-- 'sluicewaylaw13.ReplayFull', WHERE WHAT IT READS IS OF BULK AT MOST 1048576: true; the input reads as it did. -/
def replayFullUptoRow : OpenClaim := { program := "ytebibndnphkmeaa", sum := "0b82e0b4498be2b9154b14e1695b95703d254df064dfa93f65d7230ba589c356", func := "sluiceway/sluicewaylaw13.ReplayFull", spec := "replayFull", apart := false, narrowed := true }
def ReplayFullUptoSaid : Prop := replayFullUptoRow.holds Try.pinned (OpenSpec.upto replayFullSpec)

/-- 'sluicewaylaw13.ReplayApart', WHERE WHAT IT READS IS OF BULK AT MOST 1048576: true; the input reads as it did. -/
def replayApartUptoRow : OpenClaim := { program := "ytebibndnphkmeaa", sum := "0b82e0b4498be2b9154b14e1695b95703d254df064dfa93f65d7230ba589c356", func := "sluiceway/sluicewaylaw13.ReplayApart", spec := "replayApart", apart := false, narrowed := true }
def ReplayApartUptoSaid : Prop := replayApartUptoRow.holds Try.pinned (OpenSpec.upto replayApartSpec)

/-- 'sluicewaylaw13.ReplayLonger', WHERE WHAT IT READS IS OF BULK AT MOST 1048576: true; the input reads as it did. -/
def replayLongerUptoRow : OpenClaim := { program := "ytebibndnphkmeaa", sum := "0b82e0b4498be2b9154b14e1695b95703d254df064dfa93f65d7230ba589c356", func := "sluiceway/sluicewaylaw13.ReplayLonger", spec := "replayLonger", apart := false, narrowed := true }
def ReplayLongerUptoSaid : Prop := replayLongerUptoRow.holds Try.pinned (OpenSpec.upto replayLongerSpec)

/-- 'sluicewaylaw13.ReplayPlays', WHERE WHAT IT READS IS OF BULK AT MOST 1048576: true; the input reads as it did. -/
def replayPlaysUptoRow : OpenClaim := { program := "ytebibndnphkmeaa", sum := "0b82e0b4498be2b9154b14e1695b95703d254df064dfa93f65d7230ba589c356", func := "sluiceway/sluicewaylaw13.ReplayPlays", spec := "replayPlays", recurses := true, apart := false, narrowed := true }
def ReplayPlaysUptoSaid : Prop := replayPlaysUptoRow.holds Try.pinned (OpenSpec.upto replayPlaysSpec)

/-- 'sluicewaylaw13.ReplayOver', WHERE WHAT IT READS IS OF BULK AT MOST 1048576: true; the input reads as it did. -/
def replayOverUptoRow : OpenClaim := { program := "ytebibndnphkmeaa", sum := "0b82e0b4498be2b9154b14e1695b95703d254df064dfa93f65d7230ba589c356", func := "sluiceway/sluicewaylaw13.ReplayOver", spec := "replayOver", recurses := true, apart := false, narrowed := true }
def ReplayOverUptoSaid : Prop := replayOverUptoRow.holds Try.pinned (OpenSpec.upto replayOverSpec)

/-- 'sluicewaylaw13.ReplayOrder', WHERE WHAT IT READS IS OF BULK AT MOST 1048576: true; the input reads as it did. -/
def replayOrderUptoRow : OpenClaim := { program := "ytebibndnphkmeaa", sum := "0b82e0b4498be2b9154b14e1695b95703d254df064dfa93f65d7230ba589c356", func := "sluiceway/sluicewaylaw13.ReplayOrder", spec := "replayOrder", recurses := true, apart := false, narrowed := true }
def ReplayOrderUptoSaid : Prop := replayOrderUptoRow.holds Try.pinned (OpenSpec.upto replayOrderSpec)

/-- 'sluicewaylaw13.ReplayLate', WHERE WHAT IT READS IS OF BULK AT MOST 1048576: true; the input reads as it did. -/
def replayLateUptoRow : OpenClaim := { program := "ytebibndnphkmeaa", sum := "0b82e0b4498be2b9154b14e1695b95703d254df064dfa93f65d7230ba589c356", func := "sluiceway/sluicewaylaw13.ReplayLate", spec := "replayLate", recurses := true, apart := false, narrowed := true }
def ReplayLateUptoSaid : Prop := replayLateUptoRow.holds Try.pinned (OpenSpec.upto replayLateSpec)

/-- 'sluicewaylaw13.ReplayNames', WHERE WHAT IT READS IS OF BULK AT MOST 1048576: true; the input reads as it did. -/
def replayNamesUptoRow : OpenClaim := { program := "ytebibndnphkmeaa", sum := "0b82e0b4498be2b9154b14e1695b95703d254df064dfa93f65d7230ba589c356", func := "sluiceway/sluicewaylaw13.ReplayNames", spec := "replayNames", recurses := true, apart := false, narrowed := true }
def ReplayNamesUptoSaid : Prop := replayNamesUptoRow.holds Try.pinned (OpenSpec.upto replayNamesSpec)

end Rows
end Go.Proofs.Ytebibndnphkmeaa
