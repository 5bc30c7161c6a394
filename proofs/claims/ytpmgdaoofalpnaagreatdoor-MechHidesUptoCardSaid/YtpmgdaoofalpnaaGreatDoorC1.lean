/- The code of functions (printed by gen/Gen.lean). -/
import Derived.Test.YtpmgdaoofalpnaaGreatDoorE3
set_option linter.unusedVariables false
set_option linter.unusedSimpArgs false
set_option linter.unusedSectionVars false
namespace Abs
open Go
/- 37 sluiceway/sluicewaylaw17.MechHides -/
def f37b : ACode :=
  .seq (.ops [
    ⟨some 2, .pur .mov, [.k (.b false)], none⟩]) <|
  .seq (.ops [
    ⟨some 19, .call 146, [], none⟩,
    ⟨some 3, .pur .mov, [.t 19], none⟩]) <|
  .seq (.ops [
    ⟨some 20, .pur .mov, [.t 0], none⟩,
    ⟨some 21, .call 152, [.t 20], none⟩,
    ⟨some 4, .alloc .reg [.i (0), .s ⟨#[]⟩, .lst 0 true [], .i (0), .s ⟨#[]⟩, .lst 0 true [], .i (0), .s ⟨#[]⟩, .lst 0 true [], .i (0), .s ⟨#[]⟩, .lst 0 true [], .i (0), .s ⟨#[]⟩, .lst 0 true []], [], none⟩,
    ⟨none, .st (some 4) 15, [.t 4, .t 21], none⟩]) <|
  .seq (.ops [
    ⟨some 22, .pur .mov, [.t 0], none⟩,
    ⟨some 23, .pur (.bin .add), [.k (.s ⟨#[112, 97, 115, 115, 119, 111, 114, 100, 32]⟩), .t 22], none⟩,
    ⟨some 24, .call 162, [.t 23], none⟩,
    ⟨some 5, .alloc .reg [.i (0), .s ⟨#[]⟩, .lst 0 true []], [], none⟩,
    ⟨none, .st (some 5) 3, [.t 5, .t 24], none⟩]) <|
  .seq (.ops [
    ⟨some 25, .ld (some 5) 3 true, [.t 5], none⟩,
    ⟨some 26, .call 145, [.t 25, .k (.s ⟨#[110, 97, 109, 101]⟩)], none⟩,
    ⟨some 6, .alloc .reg [.i (0), .s ⟨#[]⟩, .lst 0 true []], [], none⟩,
    ⟨none, .st (some 6) 3, [.t 6, .t 26], none⟩]) <|
  .seq (.ops [
    ⟨some 27, .ld (some 6) 3 true, [.t 6], none⟩,
    ⟨some 28, .pur (.faddr 12), [.t 4], none⟩,
    ⟨some 29, .ld (some 4) 3 true, [.t 28], none⟩,
    ⟨some 30, .call 153, [.t 27, .t 29], none⟩,
    ⟨some 7, .alloc .reg [.i (0), .s ⟨#[]⟩, .lst 0 true []], [], none⟩,
    ⟨none, .st (some 7) 3, [.t 7, .t 30], none⟩]) <|
  .seq (.ops [
    ⟨some 32, .ld (some 6) 3 true, [.t 6], none⟩,
    ⟨some 33, .pur (.faddr 6), [.t 4], none⟩,
    ⟨some 34, .ld (some 4) 3 true, [.t 33], none⟩,
    ⟨some 35, .ld (some 7) 3 true, [.t 7], none⟩,
    ⟨some 36, .pur (.faddr 9), [.t 4], none⟩,
    ⟨some 37, .ld (some 4) 3 true, [.t 36], none⟩,
    ⟨some 38, .call 154, [.t 32, .t 34, .t 35, .t 37], none⟩,
    ⟨some 31, .pur .mov, [.t 38], none⟩,
    ⟨some 39, .pur (.extract 0), [.t 31], none⟩,
    ⟨some 40, .pur (.extract 1), [.t 31], none⟩,
    ⟨some 41, .pur (.extract 2), [.t 31], none⟩,
    ⟨some 8, .alloc .reg [.i (0), .s ⟨#[]⟩, .lst 0 true []], [], none⟩,
    ⟨some 9, .alloc .reg [.i (0), .s ⟨#[]⟩, .lst 0 true []], [], none⟩,
    ⟨none, .st (some 8) 3, [.t 8, .t 39], none⟩,
    ⟨none, .st (some 9) 3, [.t 9, .t 40], none⟩,
    ⟨some 10, .pur .mov, [.t 41], none⟩]) <|
  .seq (.ops [
    ⟨some 42, .pur (.faddr 6), [.t 4], none⟩,
    ⟨some 43, .ld (some 4) 3 true, [.t 42], none⟩,
    ⟨some 44, .ld (some 7) 3 true, [.t 7], none⟩,
    ⟨some 45, .ld (some 8) 3 true, [.t 8], none⟩,
    ⟨some 46, .pur (.buildSl 3 3 [.i (0), .s ⟨#[]⟩, .lst 0 true []] [0, 1, 2]), [.t 43, .t 44, .t 45], none⟩,
    ⟨some 11, .pur .mov, [.t 46], none⟩]) <|
  .seq (.ops [
    ⟨some 48, .pur .mov, [.t 11], none⟩,
    ⟨some 49, .ld (some 5) 3 true, [.t 5], none⟩,
    ⟨some 50, .call 144, [.t 48, .t 49], none⟩,
    ⟨some 47, .pur .mov, [.t 50], none⟩,
    ⟨some 51, .pur (.extract 0), [.t 47], none⟩,
    ⟨some 52, .pur (.extract 1), [.t 47], none⟩,
    ⟨some 12, .alloc .reg [.i (0), .s ⟨#[]⟩, .lst 0 true []], [], none⟩,
    ⟨none, .st (some 12) 3, [.t 12, .t 51], none⟩,
    ⟨some 13, .pur .mov, [.t 52], none⟩]) <|
  .seq (.seq (.ops [
    ⟨some 53, .pur .mov, [.t 10], none⟩,
    ⟨some 54, .pur (.bin .neq), [.t 53, .k (.i (0))], none⟩,
    ⟨some 55, .pur .mov, [.t 54], none⟩,
    ⟨some 56, .pur .mov, [.t 11], some (55, false)⟩,
    ⟨some 57, .ld (some 9) 3 true, [.t 9], some (55, false)⟩,
    ⟨some 58, .call 129, [.t 56, .t 57], some (55, false)⟩,
    ⟨some 59, .pur .pick, [.t 55, .k (.b true), .t 58], none⟩,
    ⟨some 60, .pur .mov, [.t 59], none⟩,
    ⟨some 61, .pur .mov, [.t 11], some (60, false)⟩,
    ⟨some 62, .ld (some 5) 3 true, [.t 5], some (60, false)⟩,
    ⟨some 63, .call 129, [.t 61, .t 62], some (60, false)⟩,
    ⟨some 64, .pur .pick, [.t 60, .k (.b true), .t 63], none⟩,
    ⟨some 65, .pur .mov, [.t 64], none⟩,
    ⟨some 66, .pur .mov, [.t 13], some (65, false)⟩,
    ⟨some 67, .pur .pick, [.t 65, .k (.b true), .t 66], none⟩,
    ⟨some 68, .pur .mov, [.t 67], none⟩,
    ⟨some 69, .pur (.buildSl 3 0 [.i (0), .s ⟨#[]⟩, .lst 0 true []] []), [], some (68, false)⟩,
    ⟨some 70, .pur .mov, [.t 11], some (68, false)⟩,
    ⟨some 71, .append 3 48, [.t 69, .t 70], some (68, false)⟩,
    ⟨some 72, .ld (some 5) 3 true, [.t 5], some (68, false)⟩,
    ⟨some 73, .pur (.buildSl 3 1 [.i (0), .s ⟨#[]⟩, .lst 0 true []] [0]), [.t 72], some (68, false)⟩,
    ⟨some 74, .append 3 48, [.t 71, .t 73], some (68, false)⟩,
    ⟨some 75, .ld (some 9) 3 true, [.t 9], some (68, false)⟩,
    ⟨some 76, .call 129, [.t 74, .t 75], some (68, false)⟩,
    ⟨some 77, .pur .pick, [.t 68, .k (.b true), .t 76], none⟩]) <|
  .cond (.t 77) (.seq (.ops [
      ⟨some 2, .pur .mov, [.k (.b false)], none⟩]) <|
    .ret) (.skip)) <|
  .seq (.ops [
    ⟨some 78, .pur (.faddr 0), [.t 4], none⟩,
    ⟨some 79, .ld (some 4) 3 true, [.t 78], none⟩,
    ⟨some 80, .ld (some 6) 3 true, [.t 6], none⟩,
    ⟨some 81, .pur (.faddr 6), [.t 4], none⟩,
    ⟨some 82, .ld (some 4) 3 true, [.t 81], none⟩,
    ⟨some 83, .call 148, [.t 79, .t 80, .t 82, .k (.i (5))], none⟩,
    ⟨some 14, .alloc .reg [.i (0), .s ⟨#[]⟩, .lst 0 true []], [], none⟩,
    ⟨none, .st (some 14) 3, [.t 14, .t 83], none⟩]) <|
  .seq (.ops [
    ⟨some 85, .pur (.faddr 6), [.t 4], none⟩,
    ⟨some 86, .ld (some 4) 3 true, [.t 85], none⟩,
    ⟨some 87, .ld (some 14) 3 true, [.t 14], none⟩,
    ⟨some 88, .pur (.buildSl 3 2 [.i (0), .s ⟨#[]⟩, .lst 0 true []] [0, 1]), [.t 86, .t 87], none⟩,
    ⟨some 89, .ld (some 5) 3 true, [.t 5], none⟩,
    ⟨some 90, .call 144, [.t 88, .t 89], none⟩,
    ⟨some 84, .pur .mov, [.t 90], none⟩,
    ⟨some 91, .pur (.extract 0), [.t 84], none⟩,
    ⟨some 92, .pur (.extract 1), [.t 84], none⟩,
    ⟨some 15, .alloc .reg [.i (0), .s ⟨#[]⟩, .lst 0 true []], [], none⟩,
    ⟨none, .st (some 15) 3, [.t 15, .t 91], none⟩,
    ⟨some 16, .pur .mov, [.t 92], none⟩]) <|
  .seq (.ops [
    ⟨some 94, .pur (.faddr 6), [.t 4], none⟩,
    ⟨some 95, .ld (some 4) 3 true, [.t 94], none⟩,
    ⟨some 96, .ld (some 14) 3 true, [.t 14], none⟩,
    ⟨some 97, .pur (.faddr 0), [.t 4], none⟩,
    ⟨some 98, .ld (some 4) 3 true, [.t 97], none⟩,
    ⟨some 99, .pur (.buildSl 3 3 [.i (0), .s ⟨#[]⟩, .lst 0 true []] [0, 1, 2]), [.t 95, .t 96, .t 98], none⟩,
    ⟨some 100, .ld (some 5) 3 true, [.t 5], none⟩,
    ⟨some 101, .call 144, [.t 99, .t 100], none⟩,
    ⟨some 93, .pur .mov, [.t 101], none⟩,
    ⟨some 102, .pur (.extract 0), [.t 93], none⟩,
    ⟨some 103, .pur (.extract 1), [.t 93], none⟩,
    ⟨some 17, .alloc .reg [.i (0), .s ⟨#[]⟩, .lst 0 true []], [], none⟩,
    ⟨none, .st (some 17) 3, [.t 17, .t 102], none⟩,
    ⟨some 18, .pur .mov, [.t 103], none⟩]) <|
  .seq (.ops [
    ⟨some 104, .pur .mov, [.t 3], none⟩,
    ⟨some 105, .pur .mov, [.t 104], none⟩,
    ⟨some 106, .pur .mov, [.t 16], some (105, true)⟩,
    ⟨some 107, .pur (.un .not), [.t 106], some (105, true)⟩,
    ⟨some 108, .pur .pick, [.t 105, .t 107, .k (.b false)], none⟩,
    ⟨some 109, .pur .mov, [.t 108], none⟩,
    ⟨some 110, .pur .mov, [.t 18], some (109, true)⟩,
    ⟨some 111, .pur .pick, [.t 109, .t 110, .k (.b false)], none⟩,
    ⟨some 112, .pur .mov, [.t 111], none⟩,
    ⟨some 113, .pur (.faddr 6), [.t 4], some (112, true)⟩,
    ⟨some 114, .ld (some 4) 3 true, [.t 113], some (112, true)⟩,
    ⟨some 115, .ld (some 14) 3 true, [.t 14], some (112, true)⟩,
    ⟨some 116, .pur (.faddr 0), [.t 4], some (112, true)⟩,
    ⟨some 117, .ld (some 4) 3 true, [.t 116], some (112, true)⟩,
    ⟨some 118, .pur (.buildSl 3 3 [.i (0), .s ⟨#[]⟩, .lst 0 true []] [0, 1, 2]), [.t 114, .t 115, .t 117], some (112, true)⟩,
    ⟨some 119, .ld (some 5) 3 true, [.t 5], some (112, true)⟩,
    ⟨some 120, .call 129, [.t 118, .t 119], some (112, true)⟩,
    ⟨some 121, .pur (.un .not), [.t 120], some (112, true)⟩,
    ⟨some 122, .pur .pick, [.t 112, .t 121, .k (.b false)], none⟩,
    ⟨some 2, .pur .mov, [.t 122], none⟩]) <|
  .ret
def f37 : AFunc := ⟨123, f37b, [.tmp 2]⟩
/- 61 sluiceway/sluicewayref10.Same -/
def f61_l0 : ACode :=
  .seq (.seq (.ops [
    ⟨some 28, .pur .mov, [.t 5], none⟩,
    ⟨some 29, .pur (.faddr 2), [.t 2], none⟩,
    ⟨some 30, .ld (some 2) 1 false, [.t 29], none⟩,
    ⟨some 31, .pur .lenL, [.t 30], none⟩,
    ⟨some 32, .pur (.bin .lss), [.t 28, .t 31], none⟩]) <|
  .cond (.t 32) (.skip) (.exit 0)) <|
  .seq (.block 1 (.seq (.ops [
      ⟨some 35, .pur (.faddr 2), [.t 2], none⟩,
      ⟨some 36, .ld (some 2) 1 false, [.t 35], none⟩,
      ⟨some 37, .pur .mov, [.t 5], none⟩,
      ⟨some 38, .pur (.iaddr 3), [.t 36, .t 37], none⟩,
      ⟨some 39, .ld none 3 true, [.t 38], none⟩,
      ⟨some 40, .pur (.faddr 2), [.t 3], none⟩,
      ⟨some 41, .ld (some 3) 1 false, [.t 40], none⟩,
      ⟨some 42, .pur .mov, [.t 5], none⟩,
      ⟨some 43, .pur (.iaddr 3), [.t 41, .t 42], none⟩,
      ⟨some 44, .ld none 3 true, [.t 43], none⟩,
      ⟨some 45, .call 61, [.t 39, .t 44], none⟩,
      ⟨some 6, .pur .mov, [.t 45], none⟩]) <|
    .seq (.ops [
      ⟨some 46, .pur .mov, [.t 6], none⟩,
      ⟨some 47, .pur (.un .not), [.t 46], none⟩]) <|
    .cond (.t 47) (.seq (.ops [
        ⟨some 4, .pur .mov, [.k (.b false)], none⟩]) <|
      .ret) (.skip))) <|
  .ops [
    ⟨some 33, .pur .mov, [.t 5], none⟩,
    ⟨some 34, .pur (.bin .add), [.t 33, .k (.i (1))], none⟩,
    ⟨some 5, .pur .mov, [.t 34], none⟩]
def f61b : ACode :=
  .seq (.ops [
    ⟨some 2, .box .reg, [.t 0], none⟩,
    ⟨some 3, .box .reg, [.t 1], none⟩,
    ⟨some 4, .pur .mov, [.k (.b false)], none⟩]) <|
  .seq (.seq (.ops [
    ⟨some 7, .pur (.faddr 0), [.t 2], none⟩,
    ⟨some 8, .ld (some 2) 1 false, [.t 7], none⟩,
    ⟨some 9, .pur (.faddr 0), [.t 3], none⟩,
    ⟨some 10, .ld (some 3) 1 false, [.t 9], none⟩,
    ⟨some 11, .pur (.bin .neq), [.t 8, .t 10], none⟩,
    ⟨some 12, .pur .mov, [.t 11], none⟩,
    ⟨some 13, .pur (.faddr 1), [.t 2], some (12, false)⟩,
    ⟨some 14, .ld (some 2) 1 false, [.t 13], some (12, false)⟩,
    ⟨some 15, .pur (.faddr 1), [.t 3], some (12, false)⟩,
    ⟨some 16, .ld (some 3) 1 false, [.t 15], some (12, false)⟩,
    ⟨some 17, .pur (.bin .neq), [.t 14, .t 16], some (12, false)⟩,
    ⟨some 18, .pur .pick, [.t 12, .k (.b true), .t 17], none⟩,
    ⟨some 19, .pur .mov, [.t 18], none⟩,
    ⟨some 20, .pur (.faddr 2), [.t 2], some (19, false)⟩,
    ⟨some 21, .ld (some 2) 1 false, [.t 20], some (19, false)⟩,
    ⟨some 22, .pur .lenL, [.t 21], some (19, false)⟩,
    ⟨some 23, .pur (.faddr 2), [.t 3], some (19, false)⟩,
    ⟨some 24, .ld (some 3) 1 false, [.t 23], some (19, false)⟩,
    ⟨some 25, .pur .lenL, [.t 24], some (19, false)⟩,
    ⟨some 26, .pur (.bin .neq), [.t 22, .t 25], some (19, false)⟩,
    ⟨some 27, .pur .pick, [.t 19, .k (.b true), .t 26], none⟩]) <|
  .cond (.t 27) (.seq (.ops [
      ⟨some 4, .pur .mov, [.k (.b false)], none⟩]) <|
    .ret) (.skip)) <|
  .seq (.seq (.ops [
    ⟨some 5, .pur .mov, [.k (.i (0))], none⟩]) <|
  .block 0 (.loop [4, 6, 28, 29, 30, 31, 32, 33, 34, 35, 36, 37, 38, 39, 40, 41, 42, 43, 44, 45, 46, 47] [] f61_l0)) <|
  .seq (.ops [
    ⟨some 4, .pur .mov, [.k (.b true)], none⟩]) <|
  .ret
def f61 : AFunc := ⟨48, f61b, [.tmp 4]⟩
/- 62 sluiceway/message.Pack -/
def f62b : ACode :=
  .seq (.ops [
    ⟨some 4, .alloc .reg [.i (0), .s ⟨#[]⟩, .lst 0 true []], [], none⟩]) <|
  .seq (.ops [
    ⟨some 5, .pur .mov, [.t 0], none⟩,
    ⟨some 6, .call 192, [.t 5], none⟩,
    ⟨some 7, .pur (.buildSl 3 1 [.i (0), .s ⟨#[]⟩, .lst 0 true []] [0]), [.t 6], none⟩,
    ⟨some 8, .pur .mov, [.t 1], none⟩,
    ⟨some 9, .pur (.buildSl 1 2 [.lst 0 true []] [0, 1]), [.t 7, .t 8], none⟩,
    ⟨some 10, .call 191, [.t 9], none⟩,
    ⟨some 11, .call 126, [.t 10], none⟩,
    ⟨none, .st (some 4) 3, [.t 4, .t 11], none⟩]) <|
  .ret
def f62 : AFunc := ⟨12, f62b, [.cell 4 3 true]⟩
/- 64 sluiceway/message.Word -/
def f64b : ACode :=
  .seq (.ops [
    ⟨some 2, .alloc .reg [.i (0), .s ⟨#[]⟩, .lst 0 true []], [], none⟩]) <|
  .seq (.ops [
    ⟨some 3, .pur .mov, [.t 0], none⟩,
    ⟨some 4, .pur (.bin .add), [.k (.s ⟨#[61]⟩), .t 3], none⟩,
    ⟨some 5, .call 192, [.t 4], none⟩,
    ⟨none, .st (some 2) 3, [.t 2, .t 5], none⟩]) <|
  .ret
def f64 : AFunc := ⟨6, f64b, [.cell 2 3 true]⟩
/- 66 sluiceway/message.Number -/
def f66b : ACode :=
  .seq (.ops [
    ⟨some 2, .alloc .reg [.i (0), .s ⟨#[]⟩, .lst 0 true []], [], none⟩]) <|
  .seq (.ops [
    ⟨some 3, .pur .mov, [.t 0], none⟩,
    ⟨some 4, .call 193, [.t 3], none⟩,
    ⟨some 5, .call 64, [.t 4], none⟩,
    ⟨none, .st (some 2) 3, [.t 2, .t 5], none⟩]) <|
  .ret
def f66 : AFunc := ⟨6, f66b, [.cell 2 3 true]⟩
/- 78 sluiceway/message.Unpack -/
def f78b : ACode :=
  .seq (.ops [
    ⟨some 5, .box .reg, [.t 2], none⟩,
    ⟨some 6, .pur .mov, [.k (.lst 0 true [])], none⟩,
    ⟨some 7, .pur .mov, [.k (.b false)], none⟩]) <|
  .seq (.seq (.ops [
    ⟨some 8, .pur .mov, [.t 0], none⟩,
    ⟨some 9, .pur (.bin .eql), [.t 8, .k (.s ⟨#[]⟩)], none⟩,
    ⟨some 10, .pur .mov, [.t 9], none⟩,
    ⟨some 11, .ld (some 5) 3 true, [.t 5], some (10, false)⟩,
    ⟨some 12, .call 81, [.t 11], some (10, false)⟩,
    ⟨some 13, .pur .mov, [.t 0], some (10, false)⟩,
    ⟨some 14, .pur (.bin .neq), [.t 12, .t 13], some (10, false)⟩,
    ⟨some 15, .pur .pick, [.t 10, .k (.b true), .t 14], none⟩,
    ⟨some 16, .pur .mov, [.t 15], none⟩,
    ⟨some 17, .pur (.faddr 2), [.t 5], some (16, false)⟩,
    ⟨some 18, .ld (some 5) 1 false, [.t 17], some (16, false)⟩,
    ⟨some 19, .pur .lenL, [.t 18], some (16, false)⟩,
    ⟨some 20, .pur (.bin .sub), [.t 19, .k (.i (1))], some (16, false)⟩,
    ⟨some 21, .pur .mov, [.t 1], some (16, false)⟩,
    ⟨some 22, .pur (.bin .neq), [.t 20, .t 21], some (16, false)⟩,
    ⟨some 23, .pur .pick, [.t 16, .k (.b true), .t 22], none⟩]) <|
  .cond (.t 23) (.seq (.ops [
      ⟨some 6, .pur .mov, [.k (.lst 0 true [])], none⟩,
      ⟨some 7, .pur .mov, [.k (.b false)], none⟩]) <|
    .ret) (.skip)) <|
  .seq (.ops [
    ⟨some 24, .pur (.faddr 2), [.t 5], none⟩,
    ⟨some 25, .ld (some 5) 1 false, [.t 24], none⟩,
    ⟨some 26, .pur .lenL, [.t 25], none⟩,
    ⟨some 1, .pur .mov, [.t 26], none⟩]) <|
  .seq (.ops [
    ⟨some 27, .pur (.faddr 2), [.t 5], none⟩,
    ⟨some 28, .ld (some 5) 1 false, [.t 27], none⟩,
    ⟨some 29, .pur .mov, [.t 1], none⟩,
    ⟨some 30, .pur .mov, [.t 1], none⟩,
    ⟨some 31, .pur (.sliceL 3 true true true), [.t 28, .k (.i (1)), .t 29, .t 30], none⟩,
    ⟨some 6, .pur .mov, [.t 31], none⟩,
    ⟨some 7, .pur .mov, [.k (.b true)], none⟩]) <|
  .ret
def f78 : AFunc := ⟨32, f78b, [.tmp 6, .tmp 7]⟩
/- 81 sluiceway/message.Tag -/
def f81b : ACode :=
  .seq (.ops [
    ⟨some 1, .box .reg, [.t 0], none⟩,
    ⟨some 2, .pur .mov, [.k (.s ⟨#[]⟩)], none⟩]) <|
  .seq (.seq (.ops [
    ⟨some 5, .pur (.faddr 0), [.t 1], none⟩,
    ⟨some 6, .ld (some 1) 1 false, [.t 5], none⟩,
    ⟨some 7, .pur (.bin .eql), [.t 6, .k (.i (3))], none⟩,
    ⟨some 8, .pur .mov, [.t 7], none⟩,
    ⟨some 9, .pur (.faddr 1), [.t 1], some (8, true)⟩,
    ⟨some 10, .ld (some 1) 1 false, [.t 9], some (8, true)⟩,
    ⟨some 11, .pur (.bin .eql), [.t 10, .k (.s ⟨#[]⟩)], some (8, true)⟩,
    ⟨some 12, .pur .pick, [.t 8, .t 11, .k (.b false)], none⟩,
    ⟨some 13, .pur .mov, [.t 12], none⟩,
    ⟨some 14, .pur (.faddr 2), [.t 1], some (13, true)⟩,
    ⟨some 15, .ld (some 1) 1 false, [.t 14], some (13, true)⟩,
    ⟨some 16, .pur .lenL, [.t 15], some (13, true)⟩,
    ⟨some 17, .pur (.bin .gtr), [.t 16, .k (.i (0))], some (13, true)⟩,
    ⟨some 18, .pur .pick, [.t 13, .t 17, .k (.b false)], none⟩]) <|
  .cond (.t 18) (.seq (.ops [
      ⟨some 20, .pur (.faddr 2), [.t 1], none⟩,
      ⟨some 21, .ld (some 1) 1 false, [.t 20], none⟩,
      ⟨some 22, .pur (.iaddr 3), [.t 21, .k (.i (0))], none⟩,
      ⟨some 23, .ld none 3 true, [.t 22], none⟩,
      ⟨some 24, .call 194, [.t 23], none⟩,
      ⟨some 19, .pur .mov, [.t 24], none⟩,
      ⟨some 25, .pur (.extract 0), [.t 19], none⟩,
      ⟨some 26, .pur (.extract 1), [.t 19], none⟩,
      ⟨some 3, .pur .mov, [.t 25], none⟩,
      ⟨some 4, .pur .mov, [.t 26], none⟩]) <|
    .seq (.ops [
      ⟨some 27, .pur .mov, [.t 4], none⟩]) <|
    .cond (.t 27) (.seq (.ops [
        ⟨some 28, .pur .mov, [.t 3], none⟩,
        ⟨some 2, .pur .mov, [.t 28], none⟩]) <|
      .ret) (.skip)) (.skip)) <|
  .seq (.ops [
    ⟨some 2, .pur .mov, [.k (.s ⟨#[]⟩)], none⟩]) <|
  .ret
def f81 : AFunc := ⟨29, f81b, [.tmp 2]⟩
/- 85 sluiceway/message.WordOf -/
def f85b : ACode :=
  .seq (.ops [
    ⟨some 1, .box .reg, [.t 0], none⟩,
    ⟨some 2, .pur .mov, [.k (.s ⟨#[]⟩)], none⟩,
    ⟨some 3, .pur .mov, [.k (.b false)], none⟩]) <|
  .seq (.ops [
    ⟨some 8, .ld (some 1) 3 true, [.t 1], none⟩,
    ⟨some 9, .call 194, [.t 8], none⟩,
    ⟨some 7, .pur .mov, [.t 9], none⟩,
    ⟨some 10, .pur (.extract 0), [.t 7], none⟩,
    ⟨some 11, .pur (.extract 1), [.t 7], none⟩,
    ⟨some 4, .pur .mov, [.t 10], none⟩,
    ⟨some 5, .pur .mov, [.t 11], none⟩]) <|
  .seq (.ops [
    ⟨some 13, .pur .mov, [.t 4], none⟩,
    ⟨some 14, .call 195, [.t 13, .k (.s ⟨#[61]⟩)], none⟩,
    ⟨some 12, .pur .mov, [.t 14], none⟩,
    ⟨some 15, .pur (.extract 0), [.t 12], none⟩,
    ⟨some 16, .pur (.extract 1), [.t 12], none⟩,
    ⟨some 4, .pur .mov, [.t 15], none⟩,
    ⟨some 6, .pur .mov, [.t 16], none⟩]) <|
  .seq (.seq (.ops [
    ⟨some 17, .pur .mov, [.t 5], none⟩,
    ⟨some 18, .pur (.un .not), [.t 17], none⟩,
    ⟨some 19, .pur .mov, [.t 18], none⟩,
    ⟨some 20, .pur .mov, [.t 6], some (19, false)⟩,
    ⟨some 21, .pur (.un .not), [.t 20], some (19, false)⟩,
    ⟨some 22, .pur .pick, [.t 19, .k (.b true), .t 21], none⟩]) <|
  .cond (.t 22) (.seq (.ops [
      ⟨some 2, .pur .mov, [.k (.s ⟨#[]⟩)], none⟩,
      ⟨some 3, .pur .mov, [.k (.b false)], none⟩]) <|
    .ret) (.skip)) <|
  .seq (.ops [
    ⟨some 23, .pur .mov, [.t 4], none⟩,
    ⟨some 2, .pur .mov, [.t 23], none⟩,
    ⟨some 3, .pur .mov, [.k (.b true)], none⟩]) <|
  .ret
def f85 : AFunc := ⟨24, f85b, [.tmp 2, .tmp 3]⟩
/- 87 sluiceway/message.NumberOf -/
def f87b : ACode :=
  .seq (.ops [
    ⟨some 1, .box .reg, [.t 0], none⟩,
    ⟨some 2, .pur .mov, [.k (.i (0))], none⟩,
    ⟨some 3, .pur .mov, [.k (.b false)], none⟩]) <|
  .seq (.ops [
    ⟨some 9, .ld (some 1) 3 true, [.t 1], none⟩,
    ⟨some 10, .call 85, [.t 9], none⟩,
    ⟨some 8, .pur .mov, [.t 10], none⟩,
    ⟨some 11, .pur (.extract 0), [.t 8], none⟩,
    ⟨some 12, .pur (.extract 1), [.t 8], none⟩,
    ⟨some 4, .pur .mov, [.t 11], none⟩,
    ⟨some 5, .pur .mov, [.t 12], none⟩]) <|
  .seq (.ops [
    ⟨some 14, .pur .mov, [.t 4], none⟩,
    ⟨some 15, .call 196, [.t 14], none⟩,
    ⟨some 13, .pur .mov, [.t 15], none⟩,
    ⟨some 16, .pur (.extract 0), [.t 13], none⟩,
    ⟨some 17, .pur (.extract 1), [.t 13], none⟩,
    ⟨some 6, .pur .mov, [.t 16], none⟩,
    ⟨some 7, .pur .mov, [.t 17], none⟩]) <|
  .seq (.seq (.ops [
    ⟨some 18, .pur .mov, [.t 5], none⟩,
    ⟨some 19, .pur (.un .not), [.t 18], none⟩,
    ⟨some 20, .pur .mov, [.t 19], none⟩,
    ⟨some 21, .pur .mov, [.t 7], some (20, false)⟩,
    ⟨some 22, .pur (.nilI true), [.t 21], some (20, false)⟩,
    ⟨some 23, .pur .pick, [.t 20, .k (.b true), .t 22], none⟩,
    ⟨some 24, .pur .mov, [.t 23], none⟩,
    ⟨some 25, .pur .mov, [.t 4], some (24, false)⟩,
    ⟨some 26, .pur .lenS, [.t 25], some (24, false)⟩,
    ⟨some 27, .pur (.bin .gtr), [.t 26, .k (.i (18))], some (24, false)⟩,
    ⟨some 28, .pur .pick, [.t 24, .k (.b true), .t 27], none⟩,
    ⟨some 29, .pur .mov, [.t 28], none⟩,
    ⟨some 30, .pur .mov, [.t 6], some (29, false)⟩,
    ⟨some 31, .call 193, [.t 30], some (29, false)⟩,
    ⟨some 32, .pur .mov, [.t 4], some (29, false)⟩,
    ⟨some 33, .pur (.bin .neq), [.t 31, .t 32], some (29, false)⟩,
    ⟨some 34, .pur .pick, [.t 29, .k (.b true), .t 33], none⟩]) <|
  .cond (.t 34) (.seq (.ops [
      ⟨some 2, .pur .mov, [.k (.i (0))], none⟩,
      ⟨some 3, .pur .mov, [.k (.b false)], none⟩]) <|
    .ret) (.skip)) <|
  .seq (.ops [
    ⟨some 35, .pur .mov, [.t 6], none⟩,
    ⟨some 2, .pur .mov, [.t 35], none⟩,
    ⟨some 3, .pur .mov, [.k (.b true)], none⟩]) <|
  .ret
def f87 : AFunc := ⟨36, f87b, [.tmp 2, .tmp 3]⟩
/- 116 sluiceway/term.Right -/
def f116b : ACode :=
  .seq (.ops [
    ⟨some 1, .box .reg, [.t 0], none⟩,
    ⟨some 2, .pur .mov, [.k (.b false)], none⟩]) <|
  .seq (.ops [
    ⟨some 3, .ld (some 1) 3 true, [.t 1], none⟩,
    ⟨some 4, .call 221, [.t 3, .k (.i (60))], none⟩,
    ⟨some 5, .pur .mov, [.t 4], none⟩,
    ⟨some 6, .ld (some 1) 3 true, [.t 1], some (5, true)⟩,
    ⟨some 7, .call 222, [.t 6], some (5, true)⟩,
    ⟨some 8, .pur .pick, [.t 5, .t 7, .k (.b false)], none⟩,
    ⟨some 2, .pur .mov, [.t 8], none⟩]) <|
  .ret
def f116 : AFunc := ⟨9, f116b, [.tmp 2]⟩
/- 118 sluiceway/term.Same -/
def f118b : ACode :=
  .seq (.ops [
    ⟨some 2, .box .reg, [.t 0], none⟩,
    ⟨some 3, .box .reg, [.t 1], none⟩,
    ⟨some 4, .pur .mov, [.k (.b false)], none⟩]) <|
  .seq (.ops [
    ⟨some 5, .pur (.faddr 0), [.t 2], none⟩,
    ⟨some 6, .ld (some 2) 1 false, [.t 5], none⟩,
    ⟨some 7, .pur (.faddr 0), [.t 3], none⟩,
    ⟨some 8, .ld (some 3) 1 false, [.t 7], none⟩,
    ⟨some 9, .pur (.bin .eql), [.t 6, .t 8], none⟩,
    ⟨some 10, .pur .mov, [.t 9], none⟩,
    ⟨some 11, .pur (.faddr 1), [.t 2], some (10, true)⟩,
    ⟨some 12, .ld (some 2) 1 false, [.t 11], some (10, true)⟩,
    ⟨some 13, .pur (.faddr 1), [.t 3], some (10, true)⟩,
    ⟨some 14, .ld (some 3) 1 false, [.t 13], some (10, true)⟩,
    ⟨some 15, .pur (.bin .eql), [.t 12, .t 14], some (10, true)⟩,
    ⟨some 16, .pur .pick, [.t 10, .t 15, .k (.b false)], none⟩,
    ⟨some 17, .pur .mov, [.t 16], none⟩,
    ⟨some 18, .pur (.faddr 2), [.t 2], some (17, true)⟩,
    ⟨some 19, .ld (some 2) 1 false, [.t 18], some (17, true)⟩,
    ⟨some 20, .pur (.faddr 2), [.t 3], some (17, true)⟩,
    ⟨some 21, .ld (some 3) 1 false, [.t 20], some (17, true)⟩,
    ⟨some 22, .call 224, [.t 19, .t 21, .k (.fn 118 [] [])], some (17, true)⟩,
    ⟨some 23, .pur .pick, [.t 17, .t 22, .k (.b false)], none⟩,
    ⟨some 4, .pur .mov, [.t 23], none⟩]) <|
  .ret
def f118 : AFunc := ⟨24, f118b, [.tmp 4]⟩
/- 121 sluiceway/term.Text -/
def f121b : ACode :=
  .seq (.ops [
    ⟨some 1, .box .reg, [.t 0], none⟩,
    ⟨some 2, .pur .mov, [.k (.s ⟨#[]⟩)], none⟩]) <|
  .seq (.seq (.ops [
    ⟨some 3, .ld (some 1) 3 true, [.t 1], none⟩,
    ⟨some 4, .call 221, [.t 3, .k (.i (60))], none⟩,
    ⟨some 5, .pur (.un .not), [.t 4], none⟩]) <|
  .cond (.t 5) (.seq (.ops [
      ⟨some 2, .pur .mov, [.k (.s ⟨#[]⟩)], none⟩]) <|
    .ret) (.skip)) <|
  .seq (.ops [
    ⟨some 6, .ld (some 1) 3 true, [.t 1], none⟩,
    ⟨some 7, .call 227, [.t 6], none⟩,
    ⟨some 2, .pur .mov, [.t 7], none⟩]) <|
  .ret
def f121 : AFunc := ⟨8, f121b, [.tmp 2]⟩
/- 124 sluiceway/term.Hash -/
def f124b : ACode :=
  .seq (.ops [
    ⟨some 1, .box .reg, [.t 0], none⟩,
    ⟨some 2, .alloc .reg [.i (0), .s ⟨#[]⟩, .lst 0 true []], [], none⟩]) <|
  .seq (.ops [
    ⟨some 3, .ld (some 1) 3 true, [.t 1], none⟩,
    ⟨some 4, .pur (.buildSl 3 1 [.i (0), .s ⟨#[]⟩, .lst 0 true []] [0]), [.t 3], none⟩,
    ⟨some 5, .call 228, [.k (.i (6)), .k (.s ⟨#[]⟩), .t 4], none⟩,
    ⟨none, .st (some 2) 3, [.t 2, .t 5], none⟩]) <|
  .ret
def f124 : AFunc := ⟨6, f124b, [.cell 2 3 true]⟩
/- 125 sluiceway/term.Mask -/
def f125b : ACode :=
  .seq (.ops [
    ⟨some 2, .box .reg, [.t 0], none⟩,
    ⟨some 3, .box .reg, [.t 1], none⟩,
    ⟨some 4, .alloc .reg [.i (0), .s ⟨#[]⟩, .lst 0 true []], [], none⟩]) <|
  .seq (.ops [
    ⟨some 5, .ld (some 2) 3 true, [.t 2], none⟩,
    ⟨some 6, .ld (some 3) 3 true, [.t 3], none⟩,
    ⟨some 7, .pur (.buildSl 3 2 [.i (0), .s ⟨#[]⟩, .lst 0 true []] [0, 1]), [.t 5, .t 6], none⟩,
    ⟨some 8, .call 228, [.k (.i (10)), .k (.s ⟨#[]⟩), .t 7], none⟩,
    ⟨none, .st (some 4) 3, [.t 4, .t 8], none⟩]) <|
  .ret
def f125 : AFunc := ⟨9, f125b, [.cell 4 3 true]⟩
/- 126 sluiceway/term.Pair -/
def f126b : ACode :=
  .seq (.ops [
    ⟨some 2, .alloc .reg [.i (0), .s ⟨#[]⟩, .lst 0 true []], [], none⟩]) <|
  .seq (.ops [
    ⟨some 3, .pur .mov, [.t 0], none⟩,
    ⟨some 4, .call 228, [.k (.i (3)), .k (.s ⟨#[]⟩), .t 3], none⟩,
    ⟨none, .st (some 2) 3, [.t 2, .t 4], none⟩]) <|
  .ret
def f126 : AFunc := ⟨5, f126b, [.cell 2 3 true]⟩
/- 127 sluiceway/term.Share -/
def f127b : ACode :=
  .seq (.ops [
    ⟨some 2, .box .reg, [.t 0], none⟩,
    ⟨some 3, .box .reg, [.t 1], none⟩,
    ⟨some 4, .alloc .reg [.i (0), .s ⟨#[]⟩, .lst 0 true []], [], none⟩]) <|
  .seq (.seq (.ops [
    ⟨some 5, .ld (some 3) 3 true, [.t 3], none⟩,
    ⟨some 6, .ld (some 2) 3 true, [.t 2], none⟩,
    ⟨some 7, .call 229, [.t 5, .t 6], none⟩]) <|
  .cond (.t 7) (.ops [
      ⟨some 8, .ld (some 3) 3 true, [.t 3], none⟩,
      ⟨some 9, .ld (some 2) 3 true, [.t 2], none⟩,
      ⟨none, .st (some 2) 3, [.t 2, .t 8], none⟩,
      ⟨none, .st (some 3) 3, [.t 3, .t 9], none⟩]) (.skip)) <|
  .seq (.ops [
    ⟨some 10, .ld (some 2) 3 true, [.t 2], none⟩,
    ⟨some 11, .ld (some 3) 3 true, [.t 3], none⟩,
    ⟨some 12, .pur (.buildSl 3 2 [.i (0), .s ⟨#[]⟩, .lst 0 true []] [0, 1]), [.t 10, .t 11], none⟩,
    ⟨some 13, .call 228, [.k (.i (9)), .k (.s ⟨#[]⟩), .t 12], none⟩,
    ⟨none, .st (some 4) 3, [.t 4, .t 13], none⟩]) <|
  .ret
def f127 : AFunc := ⟨14, f127b, [.cell 4 3 true]⟩
/- 128 sluiceway/term.Enc -/
def f128b : ACode :=
  .seq (.ops [
    ⟨some 2, .box .reg, [.t 0], none⟩,
    ⟨some 3, .box .reg, [.t 1], none⟩,
    ⟨some 4, .alloc .reg [.i (0), .s ⟨#[]⟩, .lst 0 true []], [], none⟩]) <|
  .seq (.ops [
    ⟨some 5, .ld (some 2) 3 true, [.t 2], none⟩,
    ⟨some 6, .ld (some 3) 3 true, [.t 3], none⟩,
    ⟨some 7, .pur (.buildSl 3 2 [.i (0), .s ⟨#[]⟩, .lst 0 true []] [0, 1]), [.t 5, .t 6], none⟩,
    ⟨some 8, .call 228, [.k (.i (4)), .k (.s ⟨#[]⟩), .t 7], none⟩,
    ⟨none, .st (some 4) 3, [.t 4, .t 8], none⟩]) <|
  .ret
def f128 : AFunc := ⟨9, f128b, [.cell 4 3 true]⟩
/- 129 sluiceway/deduce.Knows -/
def f129b : ACode :=
  .seq (.ops [
    ⟨some 3, .box .reg, [.t 1], none⟩,
    ⟨some 4, .pur .mov, [.k (.b false)], none⟩]) <|
  .seq (.ops [
    ⟨some 5, .pur .mov, [.t 0], none⟩,
    ⟨some 6, .call 230, [.t 5], none⟩,
    ⟨some 7, .ld (some 3) 3 true, [.t 3], none⟩,
    ⟨some 8, .call 231, [.t 6, .t 7], none⟩,
    ⟨some 4, .pur .mov, [.t 8], none⟩]) <|
  .ret
def f129 : AFunc := ⟨9, f129b, [.tmp 4]⟩
/- 130 sluiceway/sluicewayref10.Atom -/
def f130b : ACode :=
  .seq (.ops [
    ⟨some 2, .alloc .reg [.i (0), .s ⟨#[]⟩, .lst 0 true []], [], none⟩]) <|
  .seq (.ops [
    ⟨some 3, .pur .mov, [.t 0], none⟩,
    ⟨some 4, .pur (.build [.i (0), .s ⟨#[]⟩, .lst 0 true []] [(0, 1), (1, 1)]), [.k (.i (2)), .t 3], none⟩,
    ⟨none, .st (some 2) 3, [.t 2, .t 4], none⟩]) <|
  .ret
def f130 : AFunc := ⟨5, f130b, [.cell 2 3 true]⟩
/- 139 sluiceway/sluicewayref10.Number -/
def f139b : ACode :=
  .seq (.ops [
    ⟨some 2, .pur .mov, [.k (.s ⟨#[]⟩)], none⟩]) <|
  .seq (.seq (.ops [
    ⟨some 3, .pur .mov, [.t 0], none⟩,
    ⟨some 4, .pur (.bin .lss), [.t 3, .k (.i (0))], none⟩]) <|
  .cond (.t 4) (.seq (.ops [
      ⟨some 5, .pur .mov, [.t 0], none⟩,
      ⟨some 6, .pur (.un .neg), [.t 5], none⟩,
      ⟨some 7, .call 249, [.t 6], none⟩,
      ⟨some 8, .pur (.bin .add), [.k (.s ⟨#[45]⟩), .t 7], none⟩,
      ⟨some 2, .pur .mov, [.t 8], none⟩]) <|
    .ret) (.skip)) <|
  .seq (.ops [
    ⟨some 9, .pur .mov, [.t 0], none⟩,
    ⟨some 10, .call 249, [.t 9], none⟩,
    ⟨some 2, .pur .mov, [.t 10], none⟩]) <|
  .ret
def f139 : AFunc := ⟨11, f139b, [.tmp 2]⟩
/- 144 sluiceway/offline.Testable -/
def f144_l0 : ACode :=
  .seq (.ops [
    ⟨some 56, .pur (.bin .lss), [.t 55, .t 54], none⟩]) <|
  .seq (.cond (.t 56) (.skip) (.exit 2)) <|
  .seq (.block 3 (.seq (.ops [
      ⟨some 57, .pur (.iaddr 3), [.t 53, .t 55], none⟩,
      ⟨some 58, .ld none 3 true, [.t 57], none⟩,
      ⟨some 13, .alloc .reg [.i (0), .s ⟨#[]⟩, .lst 0 true []], [], none⟩,
      ⟨none, .st (some 13) 3, [.t 13, .t 58], none⟩]) <|
    .seq (.ops [
      ⟨some 59, .pur .mov, [.t 11], none⟩,
      ⟨some 60, .pur (.faddr 0), [.t 13], none⟩,
      ⟨some 61, .ld (some 13) 1 false, [.t 60], none⟩,
      ⟨some 62, .lookup false (.sc .nilFunc) false, [.t 59, .t 61], none⟩,
      ⟨some 14, .pur .mov, [.t 62], none⟩]) <|
    .seq (.ops [
      ⟨some 63, .pur .mov, [.t 14], none⟩,
      ⟨some 64, .pur (.nilF true), [.t 63], none⟩,
      ⟨some 65, .pur .mov, [.t 64], none⟩,
      ⟨some 66, .pur .mov, [.t 14], some (65, true)⟩,
      ⟨some 67, .ld (some 13) 3 true, [.t 13], some (65, true)⟩,
      ⟨some 68, .callv, [.t 66, .t 67], some (65, true)⟩,
      ⟨some 69, .pur .pick, [.t 65, .t 68, .k (.b false)], none⟩]) <|
    .cond (.t 69) (.seq (.ops [
        ⟨some 70, .ld (some 13) 3 true, [.t 13], none⟩,
        ⟨none, .st (some 4) 3, [.t 4, .t 70], none⟩,
        ⟨some 5, .pur .mov, [.k (.b true)], none⟩]) <|
      .ret) (.skip))) <|
  .ops [
    ⟨some 71, .pur (.bin .add), [.t 55, .k (.i (1))], none⟩,
    ⟨some 55, .pur .mov, [.t 71], none⟩]

def f144_l1 : ACode :=
  .seq (.ops [
    ⟨some 43, .pur (.bin .lss), [.t 42, .t 41], none⟩]) <|
  .seq (.cond (.t 43) (.skip) (.exit 0)) <|
  .seq (.block 1 (.seq (.ops [
      ⟨some 44, .pur (.iaddr 3), [.t 40, .t 42], none⟩,
      ⟨some 45, .ld none 3 true, [.t 44], none⟩,
      ⟨some 10, .alloc .reg [.i (0), .s ⟨#[]⟩, .lst 0 true []], [], none⟩,
      ⟨none, .st (some 10) 3, [.t 10, .t 45], none⟩]) <|
    .ops [
      ⟨some 46, .pur (.faddr 2), [.t 8], none⟩,
      ⟨some 47, .ld (some 8) 1 false, [.t 46], none⟩,
      ⟨some 48, .ld (some 10) 3 true, [.t 10], none⟩,
      ⟨some 49, .call 121, [.t 48], none⟩,
      ⟨none, .mapset true, [.t 47, .t 49, .k (.b true)], none⟩])) <|
  .ops [
    ⟨some 50, .pur (.bin .add), [.t 42, .k (.i (1))], none⟩,
    ⟨some 42, .pur .mov, [.t 50], none⟩]
def f144b : ACode :=
  .seq (.ops [
    ⟨some 3, .box .reg, [.t 1], none⟩,
    ⟨some 4, .alloc .reg [.i (0), .s ⟨#[]⟩, .lst 0 true []], [], none⟩,
    ⟨some 5, .pur .mov, [.k (.b false)], none⟩]) <|
  .seq (.ops [
    ⟨some 15, .ld (some 3) 3 true, [.t 3], none⟩,
    ⟨some 16, .call 254, [.t 15], none⟩,
    ⟨none, .st (some 3) 3, [.t 3, .t 16], none⟩]) <|
  .seq (.seq (.ops [
    ⟨some 17, .ld (some 3) 3 true, [.t 3], none⟩,
    ⟨some 18, .call 116, [.t 17], none⟩,
    ⟨some 19, .pur (.un .not), [.t 18], none⟩]) <|
  .cond (.t 19) (.seq (.ops [
      ⟨some 20, .pur (.build [.i (0), .s ⟨#[]⟩, .lst 0 true []] []), [], none⟩,
      ⟨none, .st (some 4) 3, [.t 4, .t 20], none⟩,
      ⟨some 5, .pur .mov, [.k (.b false)], none⟩]) <|
    .ret) (.skip)) <|
  .seq (.ops [
    ⟨some 21, .pur .mov, [.t 0], none⟩,
    ⟨some 22, .call 255, [.t 21], none⟩,
    ⟨some 23, .pur .mov, [.t 0], none⟩,
    ⟨some 24, .call 256, [.t 23], none⟩,
    ⟨some 25, .ld (some 3) 3 true, [.t 3], none⟩,
    ⟨some 26, .pur (.buildSl 3 1 [.i (0), .s ⟨#[]⟩, .lst 0 true []] [0]), [.t 25], none⟩,
    ⟨some 27, .append 3 48, [.t 24, .t 26], none⟩,
    ⟨some 28, .call 255, [.t 27], none⟩,
    ⟨some 6, .pur .mov, [.t 22], none⟩,
    ⟨some 7, .pur .mov, [.t 28], none⟩]) <|
  .seq (.ops [
    ⟨some 29, .pur .mov, [.t 6], none⟩,
    ⟨some 30, .call 257, [.t 29], none⟩,
    ⟨some 31, .pur .mov, [.t 7], none⟩,
    ⟨some 32, .call 257, [.t 31], none⟩,
    ⟨some 33, .mkmap, [], none⟩,
    ⟨some 34, .pur (.build [.sc (.pointer none), .sc (.pointer none), .sc (.map none)] [(0, 1), (1, 1), (2, 1)]), [.t 30, .t 32, .t 33], none⟩,
    ⟨some 8, .alloc .reg [.sc (.pointer none), .sc (.pointer none), .sc (.map none)], [], none⟩,
    ⟨none, .st (some 8) 3, [.t 8, .t 34], none⟩]) <|
  .seq (.seq (.ops [
    ⟨some 35, .pur (.faddr 0), [.t 8], none⟩,
    ⟨some 36, .ld (some 8) 1 false, [.t 35], none⟩,
    ⟨some 37, .ld (some 3) 3 true, [.t 3], none⟩,
    ⟨some 38, .call 231, [.t 36, .t 37], none⟩]) <|
  .cond (.t 38) (.seq (.ops [
      ⟨some 39, .ld (some 3) 3 true, [.t 3], none⟩,
      ⟨none, .st (some 4) 3, [.t 4, .t 39], none⟩,
      ⟨some 5, .pur .mov, [.k (.b true)], none⟩]) <|
    .ret) (.skip)) <|
  .seq (.seq (.ops [
    ⟨some 40, .pur .mov, [.t 6], none⟩,
    ⟨some 41, .pur .lenL, [.t 40], none⟩,
    ⟨some 42, .pur .mov, [.k (.i (0))], none⟩]) <|
  .block 0 (.loop [10, 43, 44, 45, 46, 47, 48, 49, 50] [10] f144_l1)) <|
  .seq (.ops [
    ⟨some 51, .ld (some 8) 3 true, [.t 8], none⟩,
    ⟨some 52, .call 258, [.t 51], none⟩,
    ⟨some 11, .pur .mov, [.t 52], none⟩]) <|
  .seq (.seq (.ops [
    ⟨some 53, .pur .mov, [.t 7], none⟩,
    ⟨some 54, .pur .lenL, [.t 53], none⟩,
    ⟨some 55, .pur .mov, [.k (.i (0))], none⟩]) <|
  .block 2 (.loop [5, 13, 14, 56, 57, 58, 59, 60, 61, 62, 63, 64, 65, 66, 67, 68, 69, 70, 71] [13] f144_l0)) <|
  .seq (.ops [
    ⟨some 72, .pur (.build [.i (0), .s ⟨#[]⟩, .lst 0 true []] []), [], none⟩,
    ⟨none, .st (some 4) 3, [.t 4, .t 72], none⟩,
    ⟨some 5, .pur .mov, [.k (.b false)], none⟩]) <|
  .ret
def f144 : AFunc := ⟨73, f144b, [.cell 4 3 true, .tmp 5]⟩
/- 145 sluiceway/sluicewayref10.Long -/
def f145b : ACode :=
  .seq (.ops [
    ⟨some 2, .box .reg, [.t 0], none⟩,
    ⟨some 4, .alloc .reg [.i (0), .s ⟨#[]⟩, .lst 0 true []], [], none⟩]) <|
  .seq (.ops [
    ⟨some 5, .ld (some 2) 3 true, [.t 2], none⟩,
    ⟨some 6, .pur .mov, [.t 1], none⟩,
    ⟨some 7, .pur (.bin .add), [.k (.s ⟨#[108, 111, 110, 103, 32]⟩), .t 6], none⟩,
    ⟨some 8, .call 259, [.t 5, .t 7], none⟩,
    ⟨none, .st (some 4) 3, [.t 4, .t 8], none⟩]) <|
  .ret
def f145 : AFunc := ⟨9, f145b, [.cell 4 3 true]⟩
/- 146 sluiceway/sluicewaylaw17.shown -/
def f146b : ACode :=
  .seq (.ops [
    ⟨some 0, .pur .mov, [.k (.b false)], none⟩]) <|
  .seq (.ops [
    ⟨some 14, .call 162, [.k (.s ⟨#[97, 107]⟩)], none⟩,
    ⟨some 1, .alloc .reg [.i (0), .s ⟨#[]⟩, .lst 0 true []], [], none⟩,
    ⟨none, .st (some 1) 3, [.t 1, .t 14], none⟩]) <|
  .seq (.ops [
    ⟨some 15, .call 162, [.k (.s ⟨#[117, 115, 101, 114]⟩)], none⟩,
    ⟨some 2, .alloc .reg [.i (0), .s ⟨#[]⟩, .lst 0 true []], [], none⟩,
    ⟨none, .st (some 2) 3, [.t 2, .t 15], none⟩]) <|
  .seq (.ops [
    ⟨some 16, .call 161, [.k (.s ⟨#[98, 111, 100, 121]⟩)], none⟩,
    ⟨some 3, .alloc .reg [.i (0), .s ⟨#[]⟩, .lst 0 true []], [], none⟩,
    ⟨none, .st (some 3) 3, [.t 3, .t 16], none⟩]) <|
  .seq (.ops [
    ⟨some 17, .ld (some 1) 3 true, [.t 1], none⟩,
    ⟨some 18, .ld (some 2) 3 true, [.t 2], none⟩,
    ⟨some 19, .ld (some 3) 3 true, [.t 3], none⟩,
    ⟨some 20, .ld (some 1) 3 true, [.t 1], none⟩,
    ⟨some 21, .ld (some 2) 3 true, [.t 2], none⟩,
    ⟨some 22, .ld (some 3) 3 true, [.t 3], none⟩,
    ⟨some 23, .call 148, [.t 20, .t 21, .t 22, .k (.i (7))], none⟩,
    ⟨some 24, .call 149, [.t 17, .t 18, .t 19, .t 23, .k (.i (9))], none⟩,
    ⟨some 4, .pur .mov, [.t 24], none⟩]) <|
  .seq (.ops [
    ⟨some 26, .ld (some 2) 3 true, [.t 2], none⟩,
    ⟨some 27, .ld (some 3) 3 true, [.t 3], none⟩,
    ⟨some 28, .ld (some 2) 3 true, [.t 2], none⟩,
    ⟨some 29, .call 162, [.k (.s ⟨#[121]⟩)], none⟩,
    ⟨some 30, .call 153, [.t 28, .t 29], none⟩,
    ⟨some 31, .call 162, [.k (.s ⟨#[120]⟩)], none⟩,
    ⟨some 32, .call 154, [.t 26, .t 27, .t 30, .t 31], none⟩,
    ⟨some 25, .pur .mov, [.t 32], none⟩,
    ⟨some 33, .pur (.extract 0), [.t 25], none⟩,
    ⟨some 34, .pur (.extract 1), [.t 25], none⟩,
    ⟨some 35, .pur (.extract 2), [.t 25], none⟩,
    ⟨some 5, .alloc .reg [.i (0), .s ⟨#[]⟩, .lst 0 true []], [], none⟩,
    ⟨some 6, .alloc .reg [.i (0), .s ⟨#[]⟩, .lst 0 true []], [], none⟩,
    ⟨none, .st (some 5) 3, [.t 5, .t 33], none⟩,
    ⟨none, .st (some 6) 3, [.t 6, .t 34], none⟩,
    ⟨some 7, .pur .mov, [.t 35], none⟩]) <|
  .seq (.ops [
    ⟨some 37, .ld (some 2) 3 true, [.t 2], none⟩,
    ⟨some 38, .ld (some 3) 3 true, [.t 3], none⟩,
    ⟨some 39, .call 162, [.k (.s ⟨#[121]⟩)], none⟩,
    ⟨some 40, .ld (some 5) 3 true, [.t 5], none⟩,
    ⟨some 41, .call 155, [.t 37, .t 38, .t 39, .t 40], none⟩,
    ⟨some 36, .pur .mov, [.t 41], none⟩,
    ⟨some 42, .pur (.extract 0), [.t 36], none⟩,
    ⟨some 43, .pur (.extract 1), [.t 36], none⟩,
    ⟨some 8, .alloc .reg [.i (0), .s ⟨#[]⟩, .lst 0 true []], [], none⟩,
    ⟨none, .st (some 8) 3, [.t 8, .t 42], none⟩,
    ⟨some 9, .pur .mov, [.t 43], none⟩]) <|
  .seq (.ops [
    ⟨some 45, .ld (some 1) 3 true, [.t 1], none⟩,
    ⟨some 46, .call 162, [.k (.s ⟨#[110]⟩)], none⟩,
    ⟨some 47, .call 157, [.t 46], none⟩,
    ⟨some 48, .call 162, [.k (.s ⟨#[115, 101, 101, 100]⟩)], none⟩,
    ⟨some 49, .call 158, [.t 48, .k (.i (3))], none⟩,
    ⟨some 50, .call 156, [.t 45, .t 47, .t 49], none⟩,
    ⟨some 44, .pur .mov, [.t 50], none⟩,
    ⟨some 51, .pur (.extract 0), [.t 44], none⟩,
    ⟨some 52, .pur (.extract 1), [.t 44], none⟩,
    ⟨some 10, .alloc .reg [.i (0), .s ⟨#[]⟩, .lst 0 true []], [], none⟩,
    ⟨none, .st (some 10) 3, [.t 10, .t 51], none⟩,
    ⟨some 11, .pur .mov, [.t 52], none⟩]) <|
  .seq (.ops [
    ⟨some 54, .ld (some 1) 3 true, [.t 1], none⟩,
    ⟨some 55, .call 162, [.k (.s ⟨#[110]⟩)], none⟩,
    ⟨some 56, .ld (some 10) 3 true, [.t 10], none⟩,
    ⟨some 57, .call 162, [.k (.s ⟨#[115, 101, 101, 100]⟩)], none⟩,
    ⟨some 58, .pur (.build [.i (0), .i (0), .i (0), .i (0), .i (0), .i (0)] [(1, 1), (5, 1)]), [.k (.i (5)), .k (.i (5))], none⟩,
    ⟨some 59, .call 159, [.t 54, .t 55, .t 56, .t 57, .t 58], none⟩,
    ⟨some 53, .pur .mov, [.t 59], none⟩,
    ⟨some 60, .pur (.extract 0), [.t 53], none⟩,
    ⟨some 61, .pur (.extract 1), [.t 53], none⟩,
    ⟨some 12, .pur .mov, [.t 60], none⟩,
    ⟨some 13, .pur .mov, [.t 61], none⟩]) <|
  .seq (.ops [
    ⟨some 62, .pur .mov, [.t 4], none⟩,
    ⟨some 63, .pur (.bin .eql), [.t 62, .k (.i (0))], none⟩,
    ⟨some 64, .pur .mov, [.t 63], none⟩,
    ⟨some 65, .pur .mov, [.t 7], some (64, true)⟩,
    ⟨some 66, .pur (.bin .eql), [.t 65, .k (.i (0))], some (64, true)⟩,
    ⟨some 67, .pur .pick, [.t 64, .t 66, .k (.b false)], none⟩,
    ⟨some 68, .pur .mov, [.t 67], none⟩,
    ⟨some 69, .pur .mov, [.t 9], some (68, true)⟩,
    ⟨some 70, .pur (.bin .eql), [.t 69, .k (.i (0))], some (68, true)⟩,
    ⟨some 71, .pur .pick, [.t 68, .t 70, .k (.b false)], none⟩,
    ⟨some 72, .pur .mov, [.t 71], none⟩,
    ⟨some 73, .pur (.faddr 0), [.t 6], some (72, true)⟩,
    ⟨some 74, .ld (some 6) 1 false, [.t 73], some (72, true)⟩,
    ⟨some 75, .pur (.bin .eql), [.t 74, .k (.i (7))], some (72, true)⟩,
    ⟨some 76, .pur .pick, [.t 72, .t 75, .k (.b false)], none⟩,
    ⟨some 77, .pur .mov, [.t 76], none⟩,
    ⟨some 78, .ld (some 6) 3 true, [.t 6], some (77, true)⟩,
    ⟨some 79, .ld (some 8) 3 true, [.t 8], some (77, true)⟩,
    ⟨some 80, .call 61, [.t 78, .t 79], some (77, true)⟩,
    ⟨some 81, .pur .pick, [.t 77, .t 80, .k (.b false)], none⟩,
    ⟨some 82, .pur .mov, [.t 81], none⟩,
    ⟨some 83, .pur .mov, [.t 11], some (82, true)⟩,
    ⟨some 84, .pur (.bin .eql), [.t 83, .k (.i (0))], some (82, true)⟩,
    ⟨some 85, .pur .pick, [.t 82, .t 84, .k (.b false)], none⟩,
    ⟨some 86, .pur .mov, [.t 85], none⟩,
    ⟨some 87, .pur .mov, [.t 13], some (86, true)⟩,
    ⟨some 88, .pur (.bin .eql), [.t 87, .k (.i (0))], some (86, true)⟩,
    ⟨some 89, .pur .pick, [.t 86, .t 88, .k (.b false)], none⟩,
    ⟨some 90, .pur .mov, [.t 89], none⟩,
    ⟨some 91, .pur .mov, [.t 12], some (90, true)⟩,
    ⟨some 92, .pur .lenL, [.t 91], some (90, true)⟩,
    ⟨some 93, .pur (.bin .eql), [.t 92, .k (.i (1))], some (90, true)⟩,
    ⟨some 94, .pur .pick, [.t 90, .t 93, .k (.b false)], none⟩,
    ⟨some 95, .pur .mov, [.t 94], none⟩,
    ⟨some 96, .pur .mov, [.t 12], some (95, true)⟩,
    ⟨some 97, .pur (.iaddr 1), [.t 96, .k (.i (0))], some (95, true)⟩,
    ⟨some 98, .ld none 1 false, [.t 97], some (95, true)⟩,
    ⟨some 99, .pur (.bin .eql), [.t 98, .k (.i (3))], some (95, true)⟩,
    ⟨some 100, .pur .pick, [.t 95, .t 99, .k (.b false)], none⟩,
    ⟨some 0, .pur .mov, [.t 100], none⟩]) <|
  .ret
def f146 : AFunc := ⟨101, f146b, [.tmp 0]⟩
/- 148 sluiceway/mech.Challenge -/
def f148b : ACode :=
  .seq (.ops [
    ⟨some 4, .box .reg, [.t 0], none⟩,
    ⟨some 5, .box .reg, [.t 1], none⟩,
    ⟨some 6, .box .reg, [.t 2], none⟩,
    ⟨some 8, .alloc .reg [.i (0), .s ⟨#[]⟩, .lst 0 true []], [], none⟩]) <|
  .seq (.ops [
    ⟨some 10, .pur .mov, [.t 3], none⟩,
    ⟨some 11, .call 66, [.t 10], none⟩,
    ⟨some 12, .ld (some 6) 3 true, [.t 6], none⟩,
    ⟨some 13, .call 124, [.t 12], none⟩,
    ⟨some 14, .pur (.buildSl 3 2 [.i (0), .s ⟨#[]⟩, .lst 0 true []] [0, 1]), [.t 11, .t 13], none⟩,
    ⟨some 15, .call 62, [.k (.s ⟨#[116, 105, 109, 101]⟩), .t 14], none⟩,
    ⟨some 9, .alloc .reg [.i (0), .s ⟨#[]⟩, .lst 0 true []], [], none⟩,
    ⟨none, .st (some 9) 3, [.t 9, .t 15], none⟩]) <|
  .seq (.ops [
    ⟨some 16, .ld (some 4) 3 true, [.t 4], none⟩,
    ⟨some 17, .ld (some 5) 3 true, [.t 5], none⟩,
    ⟨some 18, .call 262, [.t 16, .t 17], none⟩,
    ⟨some 19, .ld (some 9) 3 true, [.t 9], none⟩,
    ⟨some 20, .call 261, [.t 18, .k (.i (54)), .t 19], none⟩,
    ⟨some 21, .pur (.buildSl 3 1 [.i (0), .s ⟨#[]⟩, .lst 0 true []] [0]), [.t 20], none⟩,
    ⟨some 22, .call 62, [.k (.s ⟨#[99, 104, 97, 108, 108, 101, 110, 103, 101]⟩), .t 21], none⟩,
    ⟨none, .st (some 8) 3, [.t 8, .t 22], none⟩]) <|
  .ret
def f148 : AFunc := ⟨23, f148b, [.cell 8 3 true]⟩
/- 149 sluiceway/mech.CheckChallenge -/
def f149b : ACode :=
  .seq (.ops [
    ⟨some 5, .box .reg, [.t 0], none⟩,
    ⟨some 6, .box .reg, [.t 1], none⟩,
    ⟨some 7, .box .reg, [.t 2], none⟩,
    ⟨some 8, .box .reg, [.t 3], none⟩,
    ⟨some 10, .pur .mov, [.k (.i (0))], none⟩]) <|
  .seq (.ops [
    ⟨some 18, .ld (some 8) 3 true, [.t 8], none⟩,
    ⟨some 19, .call 78, [.k (.s ⟨#[99, 104, 97, 108, 108, 101, 110, 103, 101]⟩), .k (.i (1)), .t 18], none⟩,
    ⟨some 17, .pur .mov, [.t 19], none⟩,
    ⟨some 20, .pur (.extract 0), [.t 17], none⟩,
    ⟨some 21, .pur (.extract 1), [.t 17], none⟩,
    ⟨some 11, .pur .mov, [.t 20], none⟩,
    ⟨some 12, .pur .mov, [.t 21], none⟩]) <|
  .seq (.seq (.ops [
    ⟨some 22, .pur .mov, [.t 12], none⟩,
    ⟨some 23, .pur (.un .not), [.t 22], none⟩]) <|
  .cond (.t 23) (.seq (.ops [
      ⟨some 10, .pur .mov, [.k (.i (2))], none⟩]) <|
    .ret) (.skip)) <|
  .seq (.ops [
    ⟨some 25, .ld (some 5) 3 true, [.t 5], none⟩,
    ⟨some 26, .ld (some 6) 3 true, [.t 6], none⟩,
    ⟨some 27, .call 262, [.t 25, .t 26], none⟩,
    ⟨some 28, .pur .mov, [.t 11], none⟩,
    ⟨some 29, .pur (.iaddr 3), [.t 28, .k (.i (0))], none⟩,
    ⟨some 30, .ld none 3 true, [.t 29], none⟩,
    ⟨some 31, .call 263, [.t 27, .k (.i (54)), .t 30], none⟩,
    ⟨some 24, .pur .mov, [.t 31], none⟩,
    ⟨some 32, .pur (.extract 0), [.t 24], none⟩,
    ⟨some 33, .pur (.extract 1), [.t 24], none⟩,
    ⟨some 13, .alloc .reg [.i (0), .s ⟨#[]⟩, .lst 0 true []], [], none⟩,
    ⟨none, .st (some 13) 3, [.t 13, .t 32], none⟩,
    ⟨some 14, .pur .mov, [.t 33], none⟩]) <|
  .seq (.seq (.ops [
    ⟨some 34, .pur .mov, [.t 14], none⟩]) <|
  .block 0 (.seq (.ops [
      ⟨some 37, .pur (.bin .eql), [.t 34, .k (.i (4))], none⟩,
      ⟨some 36, .pur .mov, [.t 37], none⟩]) <|
    .cond (.t 36) (.seq (.ops [
        ⟨some 10, .pur .mov, [.k (.i (6))], none⟩]) <|
      .ret) (.seq (.ops [
        ⟨some 39, .pur (.bin .eql), [.t 34, .k (.i (0))], none⟩,
        ⟨some 38, .pur .mov, [.t 39], none⟩]) <|
      .cond (.t 38) (.skip) (.seq (.ops [
          ⟨some 35, .pur .mov, [.t 14], none⟩,
          ⟨some 10, .pur .mov, [.t 35], none⟩]) <|
        .ret)))) <|
  .seq (.ops [
    ⟨some 41, .ld (some 13) 3 true, [.t 13], none⟩,
    ⟨some 42, .call 78, [.k (.s ⟨#[116, 105, 109, 101]⟩), .k (.i (2)), .t 41], none⟩,
    ⟨some 40, .pur .mov, [.t 42], none⟩,
    ⟨some 43, .pur (.extract 0), [.t 40], none⟩,
    ⟨some 44, .pur (.extract 1), [.t 40], none⟩,
    ⟨some 15, .pur .mov, [.t 43], none⟩,
    ⟨some 12, .pur .mov, [.t 44], none⟩]) <|
  .seq (.seq (.ops [
    ⟨some 45, .pur .mov, [.t 12], none⟩,
    ⟨some 46, .pur (.un .not), [.t 45], none⟩]) <|
  .cond (.t 46) (.seq (.ops [
      ⟨some 10, .pur .mov, [.k (.i (2))], none⟩]) <|
    .ret) (.skip)) <|
  .seq (.ops [
    ⟨some 48, .pur .mov, [.t 15], none⟩,
    ⟨some 49, .pur (.iaddr 3), [.t 48, .k (.i (0))], none⟩,
    ⟨some 50, .ld none 3 true, [.t 49], none⟩,
    ⟨some 51, .call 87, [.t 50], none⟩,
    ⟨some 47, .pur .mov, [.t 51], none⟩,
    ⟨some 52, .pur (.extract 0), [.t 47], none⟩,
    ⟨some 53, .pur (.extract 1), [.t 47], none⟩,
    ⟨some 16, .pur .mov, [.t 52], none⟩,
    ⟨some 12, .pur .mov, [.t 53], none⟩]) <|
  .seq (.block 1 (.seq (.ops [
      ⟨some 55, .pur .mov, [.t 12], none⟩,
      ⟨some 56, .pur (.un .not), [.t 55], none⟩,
      ⟨some 54, .pur .mov, [.t 56], none⟩]) <|
    .cond (.t 54) (.seq (.ops [
        ⟨some 10, .pur .mov, [.k (.i (2))], none⟩]) <|
      .ret) (.seq (.ops [
        ⟨some 58, .pur .mov, [.t 15], none⟩,
        ⟨some 59, .pur (.iaddr 3), [.t 58, .k (.i (1))], none⟩,
        ⟨some 60, .ld none 3 true, [.t 59], none⟩,
        ⟨some 61, .ld (some 7) 3 true, [.t 7], none⟩,
        ⟨some 62, .call 124, [.t 61], none⟩,
        ⟨some 63, .call 118, [.t 60, .t 62], none⟩,
        ⟨some 64, .pur (.un .not), [.t 63], none⟩,
        ⟨some 57, .pur .mov, [.t 64], none⟩]) <|
      .cond (.t 57) (.seq (.ops [
          ⟨some 10, .pur .mov, [.k (.i (6))], none⟩]) <|
        .ret) (.seq (.ops [
          ⟨some 66, .pur .mov, [.t 16], none⟩,
          ⟨some 67, .pur .mov, [.t 4], none⟩,
          ⟨some 68, .call 264, [.t 66, .t 67], none⟩,
          ⟨some 69, .pur (.bin .gtr), [.t 68, .k (.i (5))], none⟩,
          ⟨some 65, .pur .mov, [.t 69], none⟩]) <|
        .cond (.t 65) (.seq (.ops [
            ⟨some 10, .pur .mov, [.k (.i (5))], none⟩]) <|
          .ret) (.skip))))) <|
  .seq (.ops [
    ⟨some 10, .pur .mov, [.k (.i (0))], none⟩]) <|
  .ret
def f149 : AFunc := ⟨70, f149b, [.tmp 10]⟩
/- 152 sluiceway/sluicewaylaw17.names -/
def f152b : ACode :=
  .seq (.ops [
    ⟨some 2, .alloc .reg [.i (0), .s ⟨#[]⟩, .lst 0 true [], .i (0), .s ⟨#[]⟩, .lst 0 true [], .i (0), .s ⟨#[]⟩, .lst 0 true [], .i (0), .s ⟨#[]⟩, .lst 0 true [], .i (0), .s ⟨#[]⟩, .lst 0 true []], [], none⟩]) <|
  .seq (.ops [
    ⟨some 3, .pur .mov, [.t 0], none⟩,
    ⟨some 4, .pur (.bin .add), [.k (.s ⟨#[97, 107, 32]⟩), .t 3], none⟩,
    ⟨some 5, .call 162, [.t 4], none⟩,
    ⟨some 6, .pur .mov, [.t 0], none⟩,
    ⟨some 7, .pur (.bin .add), [.k (.s ⟨#[117, 115, 101, 114, 32]⟩), .t 6], none⟩,
    ⟨some 8, .call 162, [.t 7], none⟩,
    ⟨some 9, .pur .mov, [.t 0], none⟩,
    ⟨some 10, .pur (.bin .add), [.k (.s ⟨#[98, 111, 100, 121, 32]⟩), .t 9], none⟩,
    ⟨some 11, .call 161, [.t 10], none⟩,
    ⟨some 12, .pur .mov, [.t 0], none⟩,
    ⟨some 13, .pur (.bin .add), [.k (.s ⟨#[120, 32]⟩), .t 12], none⟩,
    ⟨some 14, .call 162, [.t 13], none⟩,
    ⟨some 15, .pur .mov, [.t 0], none⟩,
    ⟨some 16, .pur (.bin .add), [.k (.s ⟨#[121, 32]⟩), .t 15], none⟩,
    ⟨some 17, .call 162, [.t 16], none⟩,
    ⟨some 18, .pur (.build [.i (0), .s ⟨#[]⟩, .lst 0 true [], .i (0), .s ⟨#[]⟩, .lst 0 true [], .i (0), .s ⟨#[]⟩, .lst 0 true [], .i (0), .s ⟨#[]⟩, .lst 0 true [], .i (0), .s ⟨#[]⟩, .lst 0 true []] [(0, 3), (3, 3), (6, 3), (9, 3), (12, 3)]), [.t 5, .t 8, .t 11, .t 14, .t 17], none⟩,
    ⟨none, .st (some 2) 15, [.t 2, .t 18], none⟩]) <|
  .ret
def f152 : AFunc := ⟨19, f152b, [.cell 2 15 true]⟩
/- 153 sluiceway/mech.OfferSpake -/
def f153b : ACode :=
  .seq (.ops [
    ⟨some 2, .box .reg, [.t 0], none⟩,
    ⟨some 3, .box .reg, [.t 1], none⟩,
    ⟨some 4, .alloc .reg [.i (0), .s ⟨#[]⟩, .lst 0 true []], [], none⟩]) <|
  .seq (.ops [
    ⟨some 5, .ld (some 3) 3 true, [.t 3], none⟩,
    ⟨some 6, .ld (some 2) 3 true, [.t 2], none⟩,
    ⟨some 7, .call 269, [.t 5, .t 6], none⟩,
    ⟨some 8, .pur (.buildSl 3 1 [.i (0), .s ⟨#[]⟩, .lst 0 true []] [0]), [.t 7], none⟩,
    ⟨some 9, .call 62, [.k (.s ⟨#[115, 112, 97, 107, 101]⟩), .t 8], none⟩,
    ⟨none, .st (some 4) 3, [.t 4, .t 9], none⟩]) <|
  .ret
def f153 : AFunc := ⟨10, f153b, [.cell 4 3 true]⟩
/- 154 sluiceway/mech.AnswerSpake -/
def f154b : ACode :=
  .seq (.ops [
    ⟨some 4, .box .reg, [.t 0], none⟩,
    ⟨some 5, .box .reg, [.t 1], none⟩,
    ⟨some 6, .box .reg, [.t 2], none⟩,
    ⟨some 7, .box .reg, [.t 3], none⟩,
    ⟨some 8, .alloc .reg [.i (0), .s ⟨#[]⟩, .lst 0 true []], [], none⟩,
    ⟨some 9, .alloc .reg [.i (0), .s ⟨#[]⟩, .lst 0 true []], [], none⟩,
    ⟨some 10, .pur .mov, [.k (.i (0))], none⟩]) <|
  .seq (.ops [
    ⟨some 17, .ld (some 6) 3 true, [.t 6], none⟩,
    ⟨some 18, .call 78, [.k (.s ⟨#[115, 112, 97, 107, 101]⟩), .k (.i (1)), .t 17], none⟩,
    ⟨some 16, .pur .mov, [.t 18], none⟩,
    ⟨some 19, .pur (.extract 0), [.t 16], none⟩,
    ⟨some 20, .pur (.extract 1), [.t 16], none⟩,
    ⟨some 11, .pur .mov, [.t 19], none⟩,
    ⟨some 12, .pur .mov, [.t 20], none⟩]) <|
  .seq (.seq (.ops [
    ⟨some 21, .pur .mov, [.t 12], none⟩,
    ⟨some 22, .pur (.un .not), [.t 21], none⟩]) <|
  .cond (.t 22) (.seq (.ops [
      ⟨some 23, .pur (.build [.i (0), .s ⟨#[]⟩, .lst 0 true []] []), [], none⟩,
      ⟨some 24, .pur (.build [.i (0), .s ⟨#[]⟩, .lst 0 true []] []), [], none⟩,
      ⟨none, .st (some 8) 3, [.t 8, .t 23], none⟩,
      ⟨none, .st (some 9) 3, [.t 9, .t 24], none⟩,
      ⟨some 10, .pur .mov, [.k (.i (2))], none⟩]) <|
    .ret) (.skip)) <|
  .seq (.ops [
    ⟨some 26, .pur .mov, [.t 11], none⟩,
    ⟨some 27, .pur (.iaddr 3), [.t 26, .k (.i (0))], none⟩,
    ⟨some 28, .ld none 3 true, [.t 27], none⟩,
    ⟨some 29, .ld (some 4) 3 true, [.t 4], none⟩,
    ⟨some 30, .call 270, [.t 28, .t 29], none⟩,
    ⟨some 25, .pur .mov, [.t 30], none⟩,
    ⟨some 31, .pur (.extract 0), [.t 25], none⟩,
    ⟨some 32, .pur (.extract 1), [.t 25], none⟩,
    ⟨some 13, .alloc .reg [.i (0), .s ⟨#[]⟩, .lst 0 true []], [], none⟩,
    ⟨none, .st (some 13) 3, [.t 13, .t 31], none⟩,
    ⟨some 14, .pur .mov, [.t 32], none⟩]) <|
  .seq (.seq (.ops [
    ⟨some 33, .pur .mov, [.t 14], none⟩,
    ⟨some 34, .pur (.bin .neq), [.t 33, .k (.i (0))], none⟩]) <|
  .cond (.t 34) (.seq (.ops [
      ⟨some 35, .pur (.build [.i (0), .s ⟨#[]⟩, .lst 0 true []] []), [], none⟩,
      ⟨some 36, .pur (.build [.i (0), .s ⟨#[]⟩, .lst 0 true []] []), [], none⟩,
      ⟨some 37, .pur .mov, [.t 14], none⟩,
      ⟨none, .st (some 8) 3, [.t 8, .t 35], none⟩,
      ⟨none, .st (some 9) 3, [.t 9, .t 36], none⟩,
      ⟨some 10, .pur .mov, [.t 37], none⟩]) <|
    .ret) (.skip)) <|
  .seq (.ops [
    ⟨some 38, .ld (some 7) 3 true, [.t 7], none⟩,
    ⟨some 39, .ld (some 13) 3 true, [.t 13], none⟩,
    ⟨some 40, .ld (some 4) 3 true, [.t 4], none⟩,
    ⟨some 41, .pur .mov, [.t 11], none⟩,
    ⟨some 42, .pur (.iaddr 3), [.t 41, .k (.i (0))], none⟩,
    ⟨some 43, .ld none 3 true, [.t 42], none⟩,
    ⟨some 44, .ld (some 7) 3 true, [.t 7], none⟩,
    ⟨some 45, .ld (some 4) 3 true, [.t 4], none⟩,
    ⟨some 46, .call 269, [.t 44, .t 45], none⟩,
    ⟨some 47, .ld (some 5) 3 true, [.t 5], none⟩,
    ⟨some 48, .pur (.build [.i (0), .s ⟨#[]⟩, .lst 0 true [], .i (0), .s ⟨#[]⟩, .lst 0 true [], .i (0), .s ⟨#[]⟩, .lst 0 true [], .i (0), .s ⟨#[]⟩, .lst 0 true [], .i (0), .s ⟨#[]⟩, .lst 0 true [], .i (0), .s ⟨#[]⟩, .lst 0 true []] [(0, 3), (3, 3), (6, 3), (9, 3), (12, 3), (15, 3)]), [.t 38, .t 39, .t 40, .t 43, .t 46, .t 47], none⟩,
    ⟨some 15, .alloc .reg [.i (0), .s ⟨#[]⟩, .lst 0 true [], .i (0), .s ⟨#[]⟩, .lst 0 true [], .i (0), .s ⟨#[]⟩, .lst 0 true [], .i (0), .s ⟨#[]⟩, .lst 0 true [], .i (0), .s ⟨#[]⟩, .lst 0 true [], .i (0), .s ⟨#[]⟩, .lst 0 true []], [], none⟩,
    ⟨none, .st (some 15) 18, [.t 15, .t 48], none⟩]) <|
  .seq (.ops [
    ⟨some 49, .pur (.faddr 12), [.t 15], none⟩,
    ⟨some 50, .ld (some 15) 3 true, [.t 49], none⟩,
    ⟨some 51, .ld (some 15) 18 true, [.t 15], none⟩,
    ⟨some 52, .call 271, [.t 51], none⟩,
    ⟨some 53, .pur (.buildSl 3 2 [.i (0), .s ⟨#[]⟩, .lst 0 true []] [0, 1]), [.t 50, .t 52], none⟩,
    ⟨some 54, .call 62, [.k (.s ⟨#[115, 112, 97, 107, 101]⟩), .t 53], none⟩,
    ⟨some 55, .ld (some 15) 18 true, [.t 15], none⟩,
    ⟨some 56, .call 272, [.t 55, .k (.i (0))], none⟩,
    ⟨none, .st (some 8) 3, [.t 8, .t 54], none⟩,
    ⟨none, .st (some 9) 3, [.t 9, .t 56], none⟩,
    ⟨some 10, .pur .mov, [.k (.i (0))], none⟩]) <|
  .ret
def f154 : AFunc := ⟨57, f154b, [.cell 8 3 true, .cell 9 3 true, .tmp 10]⟩
/- 155 sluiceway/mech.CheckSpake -/
def f155b : ACode :=
  .seq (.ops [
    ⟨some 4, .box .reg, [.t 0], none⟩,
    ⟨some 5, .box .reg, [.t 1], none⟩,
    ⟨some 6, .box .reg, [.t 2], none⟩,
    ⟨some 7, .box .reg, [.t 3], none⟩,
    ⟨some 8, .alloc .reg [.i (0), .s ⟨#[]⟩, .lst 0 true []], [], none⟩,
    ⟨some 9, .pur .mov, [.k (.i (0))], none⟩]) <|
  .seq (.ops [
    ⟨some 16, .ld (some 7) 3 true, [.t 7], none⟩,
    ⟨some 17, .call 78, [.k (.s ⟨#[115, 112, 97, 107, 101]⟩), .k (.i (2)), .t 16], none⟩,
    ⟨some 15, .pur .mov, [.t 17], none⟩,
    ⟨some 18, .pur (.extract 0), [.t 15], none⟩,
    ⟨some 19, .pur (.extract 1), [.t 15], none⟩,
    ⟨some 10, .pur .mov, [.t 18], none⟩,
    ⟨some 11, .pur .mov, [.t 19], none⟩]) <|
  .seq (.seq (.ops [
    ⟨some 20, .pur .mov, [.t 11], none⟩,
    ⟨some 21, .pur (.un .not), [.t 20], none⟩]) <|
  .cond (.t 21) (.seq (.ops [
      ⟨some 22, .pur (.build [.i (0), .s ⟨#[]⟩, .lst 0 true []] []), [], none⟩,
      ⟨none, .st (some 8) 3, [.t 8, .t 22], none⟩,
      ⟨some 9, .pur .mov, [.k (.i (2))], none⟩]) <|
    .ret) (.skip)) <|
  .seq (.ops [
    ⟨some 24, .pur .mov, [.t 10], none⟩,
    ⟨some 25, .pur (.iaddr 3), [.t 24, .k (.i (0))], none⟩,
    ⟨some 26, .ld none 3 true, [.t 25], none⟩,
    ⟨some 27, .ld (some 4) 3 true, [.t 4], none⟩,
    ⟨some 28, .call 270, [.t 26, .t 27], none⟩,
    ⟨some 23, .pur .mov, [.t 28], none⟩,
    ⟨some 29, .pur (.extract 0), [.t 23], none⟩,
    ⟨some 30, .pur (.extract 1), [.t 23], none⟩,
    ⟨some 12, .alloc .reg [.i (0), .s ⟨#[]⟩, .lst 0 true []], [], none⟩,
    ⟨none, .st (some 12) 3, [.t 12, .t 29], none⟩,
    ⟨some 13, .pur .mov, [.t 30], none⟩]) <|
  .seq (.seq (.ops [
    ⟨some 31, .pur .mov, [.t 13], none⟩,
    ⟨some 32, .pur (.bin .neq), [.t 31, .k (.i (0))], none⟩]) <|
  .cond (.t 32) (.seq (.ops [
      ⟨some 33, .pur (.build [.i (0), .s ⟨#[]⟩, .lst 0 true []] []), [], none⟩,
      ⟨some 34, .pur .mov, [.t 13], none⟩,
      ⟨none, .st (some 8) 3, [.t 8, .t 33], none⟩,
      ⟨some 9, .pur .mov, [.t 34], none⟩]) <|
    .ret) (.skip)) <|
  .seq (.ops [
    ⟨some 35, .ld (some 12) 3 true, [.t 12], none⟩,
    ⟨some 36, .ld (some 6) 3 true, [.t 6], none⟩,
    ⟨some 37, .ld (some 4) 3 true, [.t 4], none⟩,
    ⟨some 38, .ld (some 6) 3 true, [.t 6], none⟩,
    ⟨some 39, .ld (some 4) 3 true, [.t 4], none⟩,
    ⟨some 40, .call 269, [.t 38, .t 39], none⟩,
    ⟨some 41, .pur .mov, [.t 10], none⟩,
    ⟨some 42, .pur (.iaddr 3), [.t 41, .k (.i (0))], none⟩,
    ⟨some 43, .ld none 3 true, [.t 42], none⟩,
    ⟨some 44, .ld (some 5) 3 true, [.t 5], none⟩,
    ⟨some 45, .pur (.build [.i (0), .s ⟨#[]⟩, .lst 0 true [], .i (0), .s ⟨#[]⟩, .lst 0 true [], .i (0), .s ⟨#[]⟩, .lst 0 true [], .i (0), .s ⟨#[]⟩, .lst 0 true [], .i (0), .s ⟨#[]⟩, .lst 0 true [], .i (0), .s ⟨#[]⟩, .lst 0 true []] [(0, 3), (3, 3), (6, 3), (9, 3), (12, 3), (15, 3)]), [.t 35, .t 36, .t 37, .t 40, .t 43, .t 44], none⟩,
    ⟨some 14, .alloc .reg [.i (0), .s ⟨#[]⟩, .lst 0 true [], .i (0), .s ⟨#[]⟩, .lst 0 true [], .i (0), .s ⟨#[]⟩, .lst 0 true [], .i (0), .s ⟨#[]⟩, .lst 0 true [], .i (0), .s ⟨#[]⟩, .lst 0 true [], .i (0), .s ⟨#[]⟩, .lst 0 true []], [], none⟩,
    ⟨none, .st (some 14) 18, [.t 14, .t 45], none⟩]) <|
  .seq (.seq (.ops [
    ⟨some 46, .pur .mov, [.t 10], none⟩,
    ⟨some 47, .pur (.iaddr 3), [.t 46, .k (.i (1))], none⟩,
    ⟨some 48, .ld none 3 true, [.t 47], none⟩,
    ⟨some 49, .ld (some 14) 18 true, [.t 14], none⟩,
    ⟨some 50, .call 271, [.t 49], none⟩,
    ⟨some 51, .call 118, [.t 48, .t 50], none⟩,
    ⟨some 52, .pur (.un .not), [.t 51], none⟩]) <|
  .cond (.t 52) (.seq (.ops [
      ⟨some 53, .pur (.build [.i (0), .s ⟨#[]⟩, .lst 0 true []] []), [], none⟩,
      ⟨none, .st (some 8) 3, [.t 8, .t 53], none⟩,
      ⟨some 9, .pur .mov, [.k (.i (6))], none⟩]) <|
    .ret) (.skip)) <|
  .seq (.ops [
    ⟨some 54, .ld (some 14) 18 true, [.t 14], none⟩,
    ⟨some 55, .call 272, [.t 54, .k (.i (0))], none⟩,
    ⟨none, .st (some 8) 3, [.t 8, .t 55], none⟩,
    ⟨some 9, .pur .mov, [.k (.i (0))], none⟩]) <|
  .ret
def f155 : AFunc := ⟨56, f155b, [.cell 8 3 true, .tmp 9]⟩
/- 156 sluiceway/mech.AnswerOtp -/
def f156b : ACode :=
  .seq (.ops [
    ⟨some 3, .box .reg, [.t 0], none⟩,
    ⟨some 4, .box .reg, [.t 1], none⟩,
    ⟨some 5, .box .reg, [.t 2], none⟩,
    ⟨some 6, .alloc .reg [.i (0), .s ⟨#[]⟩, .lst 0 true []], [], none⟩,
    ⟨some 7, .pur .mov, [.k (.i (0))], none⟩]) <|
  .seq (.ops [
    ⟨some 11, .ld (some 4) 3 true, [.t 4], none⟩,
    ⟨some 12, .call 78, [.k (.s ⟨#[111, 116, 112]⟩), .k (.i (1)), .t 11], none⟩,
    ⟨some 10, .pur .mov, [.t 12], none⟩,
    ⟨some 13, .pur (.extract 0), [.t 10], none⟩,
    ⟨some 14, .pur (.extract 1), [.t 10], none⟩,
    ⟨some 8, .pur .mov, [.t 13], none⟩,
    ⟨some 9, .pur .mov, [.t 14], none⟩]) <|
  .seq (.seq (.ops [
    ⟨some 15, .pur .mov, [.t 9], none⟩,
    ⟨some 16, .pur (.un .not), [.t 15], none⟩]) <|
  .cond (.t 16) (.seq (.ops [
      ⟨some 17, .pur (.build [.i (0), .s ⟨#[]⟩, .lst 0 true []] []), [], none⟩,
      ⟨none, .st (some 6) 3, [.t 6, .t 17], none⟩,
      ⟨some 7, .pur .mov, [.k (.i (2))], none⟩]) <|
    .ret) (.skip)) <|
  .seq (.ops [
    ⟨some 18, .ld (some 3) 3 true, [.t 3], none⟩,
    ⟨some 19, .pur .mov, [.t 8], none⟩,
    ⟨some 20, .pur (.iaddr 3), [.t 19, .k (.i (0))], none⟩,
    ⟨some 21, .ld none 3 true, [.t 20], none⟩,
    ⟨some 22, .ld (some 5) 3 true, [.t 5], none⟩,
    ⟨some 23, .pur (.buildSl 3 2 [.i (0), .s ⟨#[]⟩, .lst 0 true []] [0, 1]), [.t 21, .t 22], none⟩,
    ⟨some 24, .call 62, [.k (.s ⟨#[99, 111, 100, 101]⟩), .t 23], none⟩,
    ⟨some 25, .call 261, [.t 18, .k (.i (45)), .t 24], none⟩,
    ⟨some 26, .pur (.buildSl 3 1 [.i (0), .s ⟨#[]⟩, .lst 0 true []] [0]), [.t 25], none⟩,
    ⟨some 27, .call 62, [.k (.s ⟨#[111, 116, 112]⟩), .t 26], none⟩,
    ⟨none, .st (some 6) 3, [.t 6, .t 27], none⟩,
    ⟨some 7, .pur .mov, [.k (.i (0))], none⟩]) <|
  .ret
def f156 : AFunc := ⟨28, f156b, [.cell 6 3 true, .tmp 7]⟩
/- 157 sluiceway/mech.OfferOtp -/
def f157b : ACode :=
  .seq (.ops [
    ⟨some 1, .box .reg, [.t 0], none⟩,
    ⟨some 2, .alloc .reg [.i (0), .s ⟨#[]⟩, .lst 0 true []], [], none⟩]) <|
  .seq (.ops [
    ⟨some 3, .ld (some 1) 3 true, [.t 1], none⟩,
    ⟨some 4, .pur (.buildSl 3 1 [.i (0), .s ⟨#[]⟩, .lst 0 true []] [0]), [.t 3], none⟩,
    ⟨some 5, .call 62, [.k (.s ⟨#[111, 116, 112]⟩), .t 4], none⟩,
    ⟨none, .st (some 2) 3, [.t 2, .t 5], none⟩]) <|
  .ret
def f157 : AFunc := ⟨6, f157b, [.cell 2 3 true]⟩
/- 158 sluiceway/sluicewayref10.Otp -/
def f158b : ACode :=
  .seq (.ops [
    ⟨some 2, .box .reg, [.t 0], none⟩,
    ⟨some 4, .alloc .reg [.i (0), .s ⟨#[]⟩, .lst 0 true []], [], none⟩]) <|
  .seq (.ops [
    ⟨some 5, .ld (some 2) 3 true, [.t 2], none⟩,
    ⟨some 6, .pur .mov, [.t 1], none⟩,
    ⟨some 7, .call 139, [.t 6], none⟩,
    ⟨some 8, .pur (.bin .add), [.k (.s ⟨#[111, 116, 112, 32]⟩), .t 7], none⟩,
    ⟨some 9, .call 259, [.t 5, .t 8], none⟩,
    ⟨none, .st (some 4) 3, [.t 4, .t 9], none⟩]) <|
  .ret
def f158 : AFunc := ⟨10, f158b, [.cell 4 3 true]⟩
/- 159 sluiceway/mech.HitsOtp -/
def f159_l0 : ACode :=
  .seq (.seq (.ops [
    ⟨some 61, .pur .mov, [.t 18], none⟩,
    ⟨some 62, .pur (.faddr 0), [.t 9], none⟩,
    ⟨some 63, .ld (some 9) 1 false, [.t 62], none⟩,
    ⟨some 64, .pur (.faddr 1), [.t 9], none⟩,
    ⟨some 65, .ld (some 9) 1 false, [.t 64], none⟩,
    ⟨some 66, .pur (.bin .add), [.t 63, .t 65], none⟩,
    ⟨some 67, .pur (.faddr 2), [.t 9], none⟩,
    ⟨some 68, .ld (some 9) 1 false, [.t 67], none⟩,
    ⟨some 69, .pur (.bin .add), [.t 66, .t 68], none⟩,
    ⟨some 70, .pur (.bin .leq), [.t 61, .t 69], none⟩]) <|
  .cond (.t 70) (.skip) (.exit 1)) <|
  .seq (.block 2 (.ops [
      ⟨some 73, .pur .mov, [.t 17], none⟩,
      ⟨some 74, .pur .mov, [.t 18], none⟩,
      ⟨some 75, .pur (.buildSl 1 1 [.i (0)] [0]), [.t 74], none⟩,
      ⟨some 76, .append 1 8, [.t 73, .t 75], none⟩,
      ⟨some 17, .pur .mov, [.t 76], none⟩])) <|
  .ops [
    ⟨some 71, .pur .mov, [.t 18], none⟩,
    ⟨some 72, .pur (.bin .add), [.t 71, .k (.i (1))], none⟩,
    ⟨some 18, .pur .mov, [.t 72], none⟩]
def f159b : ACode :=
  .seq (.ops [
    ⟨some 5, .box .reg, [.t 0], none⟩,
    ⟨some 6, .box .reg, [.t 1], none⟩,
    ⟨some 7, .box .reg, [.t 2], none⟩,
    ⟨some 8, .pur .ibox, [.t 3], none⟩,
    ⟨some 9, .box .reg, [.t 4], none⟩,
    ⟨some 10, .pur .mov, [.k (.lst 0 true [])], none⟩,
    ⟨some 11, .pur .mov, [.k (.i (0))], none⟩]) <|
  .seq (.ops [
    ⟨some 20, .ld (some 7) 3 true, [.t 7], none⟩,
    ⟨some 21, .call 78, [.k (.s ⟨#[111, 116, 112]⟩), .k (.i (1)), .t 20], none⟩,
    ⟨some 19, .pur .mov, [.t 21], none⟩,
    ⟨some 22, .pur (.extract 0), [.t 19], none⟩,
    ⟨some 23, .pur (.extract 1), [.t 19], none⟩,
    ⟨some 12, .pur .mov, [.t 22], none⟩,
    ⟨some 13, .pur .mov, [.t 23], none⟩]) <|
  .seq (.seq (.ops [
    ⟨some 24, .pur .mov, [.t 13], none⟩,
    ⟨some 25, .pur (.un .not), [.t 24], none⟩]) <|
  .cond (.t 25) (.seq (.ops [
      ⟨some 10, .pur .mov, [.k (.lst 0 true [])], none⟩,
      ⟨some 11, .pur .mov, [.k (.i (2))], none⟩]) <|
    .ret) (.skip)) <|
  .seq (.ops [
    ⟨some 27, .ld (some 5) 3 true, [.t 5], none⟩,
    ⟨some 28, .pur .mov, [.t 12], none⟩,
    ⟨some 29, .pur (.iaddr 3), [.t 28, .k (.i (0))], none⟩,
    ⟨some 30, .ld none 3 true, [.t 29], none⟩,
    ⟨some 31, .call 263, [.t 27, .k (.i (45)), .t 30], none⟩,
    ⟨some 26, .pur .mov, [.t 31], none⟩,
    ⟨some 32, .pur (.extract 0), [.t 26], none⟩,
    ⟨some 33, .pur (.extract 1), [.t 26], none⟩,
    ⟨some 14, .alloc .reg [.i (0), .s ⟨#[]⟩, .lst 0 true []], [], none⟩,
    ⟨none, .st (some 14) 3, [.t 14, .t 32], none⟩,
    ⟨some 15, .pur .mov, [.t 33], none⟩]) <|
  .seq (.seq (.ops [
    ⟨some 34, .pur .mov, [.t 15], none⟩,
    ⟨some 35, .pur (.bin .neq), [.t 34, .k (.i (0))], none⟩]) <|
  .cond (.t 35) (.seq (.ops [
      ⟨some 36, .pur .mov, [.t 15], none⟩,
      ⟨some 10, .pur .mov, [.k (.lst 0 true [])], none⟩,
      ⟨some 11, .pur .mov, [.t 36], none⟩]) <|
    .ret) (.skip)) <|
  .seq (.ops [
    ⟨some 38, .ld (some 14) 3 true, [.t 14], none⟩,
    ⟨some 39, .call 78, [.k (.s ⟨#[99, 111, 100, 101]⟩), .k (.i (2)), .t 38], none⟩,
    ⟨some 37, .pur .mov, [.t 39], none⟩,
    ⟨some 40, .pur (.extract 0), [.t 37], none⟩,
    ⟨some 41, .pur (.extract 1), [.t 37], none⟩,
    ⟨some 16, .alloc .heap [.lst 0 true []], [], none⟩,
    ⟨none, .st none 1, [.t 16, .t 40], none⟩,
    ⟨some 13, .pur .mov, [.t 41], none⟩]) <|
  .seq (.block 0 (.seq (.ops [
      ⟨some 43, .pur .mov, [.t 13], none⟩,
      ⟨some 44, .pur (.un .not), [.t 43], none⟩,
      ⟨some 42, .pur .mov, [.t 44], none⟩]) <|
    .cond (.t 42) (.seq (.ops [
        ⟨some 10, .pur .mov, [.k (.lst 0 true [])], none⟩,
        ⟨some 11, .pur .mov, [.k (.i (2))], none⟩]) <|
      .ret) (.seq (.ops [
        ⟨some 46, .ld none 1 false, [.t 16], none⟩,
        ⟨some 47, .pur (.iaddr 3), [.t 46, .k (.i (0))], none⟩,
        ⟨some 48, .ld none 3 true, [.t 47], none⟩,
        ⟨some 49, .ld (some 6) 3 true, [.t 6], none⟩,
        ⟨some 50, .call 118, [.t 48, .t 49], none⟩,
        ⟨some 51, .pur (.un .not), [.t 50], none⟩,
        ⟨some 45, .pur .mov, [.t 51], none⟩]) <|
      .cond (.t 45) (.seq (.ops [
          ⟨some 10, .pur .mov, [.k (.lst 0 true [])], none⟩,
          ⟨some 11, .pur .mov, [.k (.i (6))], none⟩]) <|
        .ret) (.seq (.ops [
          ⟨some 53, .ld (some 9) 6 true, [.t 9], none⟩,
          ⟨some 54, .call 273, [.t 53], none⟩,
          ⟨some 55, .pur (.un .not), [.t 54], none⟩,
          ⟨some 52, .pur .mov, [.t 55], none⟩]) <|
        .cond (.t 52) (.seq (.ops [
            ⟨some 10, .pur .mov, [.k (.lst 0 true [])], none⟩,
            ⟨some 11, .pur .mov, [.k (.i (0))], none⟩]) <|
          .ret) (.skip))))) <|
  .seq (.ops [
    ⟨some 56, .pur (.faddr 3), [.t 9], none⟩,
    ⟨some 57, .ld (some 9) 1 false, [.t 56], none⟩,
    ⟨some 58, .pur (.buildSl 1 1 [.i (0)] [0]), [.t 57], none⟩,
    ⟨some 17, .pur .mov, [.t 58], none⟩]) <|
  .seq (.seq (.ops [
    ⟨some 59, .pur (.faddr 0), [.t 9], none⟩,
    ⟨some 60, .ld (some 9) 1 false, [.t 59], none⟩,
    ⟨some 18, .pur .mov, [.t 60], none⟩]) <|
  .block 1 (.loop [61, 62, 63, 64, 65, 66, 67, 68, 69, 70, 71, 72, 73, 74, 75, 76] [] f159_l0)) <|
  .seq (.ops [
    ⟨some 77, .pur .mov, [.t 17], none⟩,
    ⟨some 78, .call 274, [.t 77], none⟩]) <|
  .seq (.ops [
    ⟨some 79, .pur .mov, [.t 17], none⟩,
    ⟨some 80, .call 276, [.t 79], none⟩,
    ⟨some 81, .pur (.mkfn 277 0), [.t 16, .t 8], none⟩,
    ⟨some 82, .call 275, [.t 80, .t 81], none⟩,
    ⟨some 10, .pur .mov, [.t 82], none⟩,
    ⟨some 11, .pur .mov, [.k (.i (0))], none⟩]) <|
  .ret
def f159 : AFunc := ⟨83, f159b, [.tmp 10, .tmp 11]⟩
/- 161 sluiceway/sluicewayref10.Data -/
def f161b : ACode :=
  .seq (.ops [
    ⟨some 2, .alloc .reg [.i (0), .s ⟨#[]⟩, .lst 0 true []], [], none⟩]) <|
  .seq (.ops [
    ⟨some 3, .pur .mov, [.t 0], none⟩,
    ⟨some 4, .pur (.build [.i (0), .s ⟨#[]⟩, .lst 0 true []] [(0, 1), (1, 1)]), [.k (.i (1)), .t 3], none⟩,
    ⟨none, .st (some 2) 3, [.t 2, .t 4], none⟩]) <|
  .ret
def f161 : AFunc := ⟨5, f161b, [.cell 2 3 true]⟩
/- 162 sluiceway/sluicewaylaw17.atom -/
def f162b : ACode :=
  .seq (.ops [
    ⟨some 2, .alloc .reg [.i (0), .s ⟨#[]⟩, .lst 0 true []], [], none⟩]) <|
  .seq (.ops [
    ⟨some 3, .pur .mov, [.t 0], none⟩,
    ⟨some 4, .call 130, [.t 3], none⟩,
    ⟨none, .st (some 2) 3, [.t 2, .t 4], none⟩]) <|
  .ret
def f162 : AFunc := ⟨5, f162b, [.cell 2 3 true]⟩
/- 191 slices.Concat[[]sluiceway/api.Term,sluiceway/api.Term] -/
def f191_l0 : ACode :=
  .seq (.ops [
    ⟨some 28, .pur (.bin .lss), [.t 27, .t 26], none⟩]) <|
  .seq (.cond (.t 28) (.skip) (.exit 2)) <|
  .seq (.block 3 (.seq (.ops [
      ⟨some 29, .pur (.iaddr 1), [.t 25, .t 27], none⟩,
      ⟨some 30, .ld none 1 false, [.t 29], none⟩,
      ⟨some 8, .pur .mov, [.t 30], none⟩]) <|
    .ops [
      ⟨some 31, .pur .mov, [.t 6], none⟩,
      ⟨some 32, .pur .mov, [.t 8], none⟩,
      ⟨some 33, .append 3 48, [.t 31, .t 32], none⟩,
      ⟨some 6, .pur .mov, [.t 33], none⟩])) <|
  .ops [
    ⟨some 34, .pur (.bin .add), [.t 27, .k (.i (1))], none⟩,
    ⟨some 27, .pur .mov, [.t 34], none⟩]

def f191_l1 : ACode :=
  .seq (.ops [
    ⟨some 12, .pur (.bin .lss), [.t 11, .t 10], none⟩]) <|
  .seq (.cond (.t 12) (.skip) (.exit 0)) <|
  .seq (.block 1 (.seq (.ops [
      ⟨some 13, .pur (.iaddr 1), [.t 9, .t 11], none⟩,
      ⟨some 14, .ld none 1 false, [.t 13], none⟩,
      ⟨some 5, .pur .mov, [.t 14], none⟩]) <|
    .seq (.ops [
      ⟨some 15, .pur .mov, [.t 3], none⟩,
      ⟨some 16, .pur .mov, [.t 5], none⟩,
      ⟨some 17, .pur .lenL, [.t 16], none⟩,
      ⟨some 18, .pur (.bin .add), [.t 15, .t 17], none⟩,
      ⟨some 3, .pur .mov, [.t 18], none⟩]) <|
    .seq (.ops [
      ⟨some 19, .pur .mov, [.t 3], none⟩,
      ⟨some 20, .pur (.bin .lss), [.t 19, .k (.i (0))], none⟩]) <|
    .cond (.t 20) (.ops [
        ⟨some 21, .bad, [], none⟩,
        ⟨none, .bad, [], none⟩]) (.skip))) <|
  .ops [
    ⟨some 22, .pur (.bin .add), [.t 11, .k (.i (1))], none⟩,
    ⟨some 11, .pur .mov, [.t 22], none⟩]
def f191b : ACode :=
  .seq (.ops [
    ⟨some 2, .pur .mov, [.k (.lst 0 true [])], none⟩]) <|
  .seq (.ops [
    ⟨some 3, .pur .mov, [.k (.i (0))], none⟩]) <|
  .seq (.seq (.ops [
    ⟨some 9, .pur .mov, [.t 0], none⟩,
    ⟨some 10, .pur .lenL, [.t 9], none⟩,
    ⟨some 11, .pur .mov, [.k (.i (0))], none⟩]) <|
  .block 0 (.loop [5, 12, 13, 14, 15, 16, 17, 18, 19, 20, 21, 22] [] f191_l1)) <|
  .seq (.ops [
    ⟨some 23, .pur .mov, [.t 3], none⟩,
    ⟨some 24, .call 304, [.k (.lst 0 true []), .t 23], none⟩,
    ⟨some 6, .pur .mov, [.t 24], none⟩]) <|
  .seq (.seq (.ops [
    ⟨some 25, .pur .mov, [.t 0], none⟩,
    ⟨some 26, .pur .lenL, [.t 25], none⟩,
    ⟨some 27, .pur .mov, [.k (.i (0))], none⟩]) <|
  .block 2 (.loop [8, 28, 29, 30, 31, 32, 33, 34] [] f191_l0)) <|
  .seq (.ops [
    ⟨some 35, .pur .mov, [.t 6], none⟩,
    ⟨some 2, .pur .mov, [.t 35], none⟩]) <|
  .ret
def f191 : AFunc := ⟨36, f191b, [.tmp 2]⟩
/- 192 sluiceway/term.Data -/
def f192b : ACode :=
  .seq (.ops [
    ⟨some 2, .alloc .reg [.i (0), .s ⟨#[]⟩, .lst 0 true []], [], none⟩]) <|
  .seq (.ops [
    ⟨some 3, .pur .mov, [.t 0], none⟩,
    ⟨some 4, .call 228, [.k (.i (1)), .t 3, .k (.lst 0 true [])], none⟩,
    ⟨none, .st (some 2) 3, [.t 2, .t 4], none⟩]) <|
  .ret
def f192 : AFunc := ⟨5, f192b, [.cell 2 3 true]⟩
/- 194 sluiceway/message.data -/
def f194b : ACode :=
  .seq (.ops [
    ⟨some 1, .box .reg, [.t 0], none⟩,
    ⟨some 2, .pur .mov, [.k (.s ⟨#[]⟩)], none⟩,
    ⟨some 3, .pur .mov, [.k (.b false)], none⟩]) <|
  .seq (.ops [
    ⟨some 4, .pur (.faddr 1), [.t 1], none⟩,
    ⟨some 5, .ld (some 1) 1 false, [.t 4], none⟩,
    ⟨some 6, .pur (.faddr 0), [.t 1], none⟩,
    ⟨some 7, .ld (some 1) 1 false, [.t 6], none⟩,
    ⟨some 8, .pur (.bin .eql), [.t 7, .k (.i (1))], none⟩,
    ⟨some 9, .pur .mov, [.t 8], none⟩,
    ⟨some 10, .pur (.faddr 2), [.t 1], some (9, true)⟩,
    ⟨some 11, .ld (some 1) 1 false, [.t 10], some (9, true)⟩,
    ⟨some 12, .pur .lenL, [.t 11], some (9, true)⟩,
    ⟨some 13, .pur (.bin .eql), [.t 12, .k (.i (0))], some (9, true)⟩,
    ⟨some 14, .pur .pick, [.t 9, .t 13, .k (.b false)], none⟩,
    ⟨some 2, .pur .mov, [.t 5], none⟩,
    ⟨some 3, .pur .mov, [.t 14], none⟩]) <|
  .ret
def f194 : AFunc := ⟨15, f194b, [.tmp 2, .tmp 3]⟩
/- 195 strings.CutPrefix -/
def f195b : ACode :=
  .seq (.ops [
    ⟨some 4, .pur .mov, [.k (.s ⟨#[]⟩)], none⟩,
    ⟨some 5, .pur .mov, [.k (.b false)], none⟩]) <|
  .seq (.ops [
    ⟨some 6, .pur .mov, [.t 0], none⟩,
    ⟨some 7, .pur .mov, [.t 1], none⟩,
    ⟨some 8, .call 306, [.t 6, .t 7], none⟩,
    ⟨some 9, .pur (.extract 0), [.t 8], none⟩,
    ⟨some 10, .pur (.extract 1), [.t 8], none⟩,
    ⟨some 4, .pur .mov, [.t 9], none⟩,
    ⟨some 5, .pur .mov, [.t 10], none⟩]) <|
  .ret
def f195 : AFunc := ⟨11, f195b, [.tmp 4, .tmp 5]⟩
/- 221 sluiceway/term.shape -/
def f221b : ACode :=
  .seq (.ops [
    ⟨some 2, .box .reg, [.t 0], none⟩,
    ⟨some 3, .pur .ibox, [.t 1], none⟩,
    ⟨some 4, .pur .mov, [.k (.b false)], none⟩]) <|
  .seq (.seq (.ops [
    ⟨some 6, .ld none 1 false, [.t 3], none⟩,
    ⟨some 7, .pur (.bin .eql), [.t 6, .k (.i (0))], none⟩,
    ⟨some 8, .pur .mov, [.t 7], none⟩,
    ⟨some 9, .ld (some 2) 3 true, [.t 2], some (8, false)⟩,
    ⟨some 10, .call 319, [.t 9], some (8, false)⟩,
    ⟨some 11, .pur (.un .not), [.t 10], some (8, false)⟩,
    ⟨some 12, .pur .pick, [.t 8, .k (.b true), .t 11], none⟩,
    ⟨some 13, .pur .mov, [.t 12], none⟩,
    ⟨some 14, .pur (.faddr 0), [.t 2], some (13, false)⟩,
    ⟨some 15, .ld (some 2) 1 false, [.t 14], some (13, false)⟩,
    ⟨some 16, .pur (.iaddrA 3 11), [.g 0, .t 15], some (13, false)⟩,
    ⟨some 17, .pur (.faddr 2), [.t 16], some (13, false)⟩,
    ⟨some 18, .ld none 1 false, [.t 17], some (13, false)⟩,
    ⟨some 19, .pur (.faddr 1), [.t 2], some (13, false)⟩,
    ⟨some 20, .ld (some 2) 1 false, [.t 19], some (13, false)⟩,
    ⟨some 21, .pur (.bin .eql), [.t 20, .k (.s ⟨#[]⟩)], some (13, false)⟩,
    ⟨some 22, .pur (.eqB false), [.t 18, .t 21], some (13, false)⟩,
    ⟨some 23, .pur .pick, [.t 13, .k (.b true), .t 22], none⟩]) <|
  .cond (.t 23) (.seq (.ops [
      ⟨some 4, .pur .mov, [.k (.b false)], none⟩]) <|
    .ret) (.skip)) <|
  .seq (.seq (.ops [
    ⟨some 24, .pur (.faddr 0), [.t 2], none⟩,
    ⟨some 25, .ld (some 2) 1 false, [.t 24], none⟩,
    ⟨some 26, .pur (.iaddrA 3 11), [.g 0, .t 25], none⟩,
    ⟨some 27, .pur (.faddr 1), [.t 26], none⟩,
    ⟨some 28, .ld none 1 false, [.t 27], none⟩,
    ⟨some 5, .pur .mov, [.t 28], none⟩]) <|
  .seq (.ops [
    ⟨some 29, .pur .mov, [.t 5], none⟩,
    ⟨some 30, .pur (.bin .geq), [.t 29, .k (.i (0))], none⟩,
    ⟨some 31, .pur .mov, [.t 30], none⟩,
    ⟨some 32, .pur (.faddr 2), [.t 2], some (31, true)⟩,
    ⟨some 33, .ld (some 2) 1 false, [.t 32], some (31, true)⟩,
    ⟨some 34, .pur .lenL, [.t 33], some (31, true)⟩,
    ⟨some 35, .pur .mov, [.t 5], some (31, true)⟩,
    ⟨some 36, .pur (.bin .neq), [.t 34, .t 35], some (31, true)⟩,
    ⟨some 37, .pur .pick, [.t 31, .t 36, .k (.b false)], none⟩]) <|
  .cond (.t 37) (.seq (.ops [
      ⟨some 4, .pur .mov, [.k (.b false)], none⟩]) <|
    .ret) (.skip)) <|
  .seq (.ops [
    ⟨some 38, .pur (.faddr 2), [.t 2], none⟩,
    ⟨some 39, .ld (some 2) 1 false, [.t 38], none⟩,
    ⟨some 40, .pur (.mkfn 321 0), [.t 3], none⟩,
    ⟨some 41, .call 320, [.t 39, .t 40], none⟩,
    ⟨some 42, .pur (.un .not), [.t 41], none⟩,
    ⟨some 4, .pur .mov, [.t 42], none⟩]) <|
  .ret
def f221 : AFunc := ⟨43, f221b, [.tmp 4]⟩
/- 222 sluiceway/term.ordered -/
def f222b : ACode :=
  .seq (.ops [
    ⟨some 1, .box .reg, [.t 0], none⟩,
    ⟨some 2, .pur .mov, [.k (.b false)], none⟩]) <|
  .seq (.seq (.ops [
    ⟨some 3, .pur (.faddr 0), [.t 1], none⟩,
    ⟨some 4, .ld (some 1) 1 false, [.t 3], none⟩,
    ⟨some 5, .pur (.bin .eql), [.t 4, .k (.i (9))], none⟩,
    ⟨some 6, .pur .mov, [.t 5], none⟩,
    ⟨some 7, .pur (.faddr 2), [.t 1], some (6, true)⟩,
    ⟨some 8, .ld (some 1) 1 false, [.t 7], some (6, true)⟩,
    ⟨some 9, .pur (.iaddr 3), [.t 8, .k (.i (1))], some (6, true)⟩,
    ⟨some 10, .ld none 3 true, [.t 9], some (6, true)⟩,
    ⟨some 11, .call 227, [.t 10], some (6, true)⟩,
    ⟨some 12, .pur (.faddr 2), [.t 1], some (6, true)⟩,
    ⟨some 13, .ld (some 1) 1 false, [.t 12], some (6, true)⟩,
    ⟨some 14, .pur (.iaddr 3), [.t 13, .k (.i (0))], some (6, true)⟩,
    ⟨some 15, .ld none 3 true, [.t 14], some (6, true)⟩,
    ⟨some 16, .call 227, [.t 15], some (6, true)⟩,
    ⟨some 17, .pur (.bin .lss), [.t 11, .t 16], some (6, true)⟩,
    ⟨some 18, .pur .pick, [.t 6, .t 17, .k (.b false)], none⟩]) <|
  .cond (.t 18) (.seq (.ops [
      ⟨some 2, .pur .mov, [.k (.b false)], none⟩]) <|
    .ret) (.skip)) <|
  .seq (.ops [
    ⟨some 19, .pur (.faddr 2), [.t 1], none⟩,
    ⟨some 20, .ld (some 1) 1 false, [.t 19], none⟩,
    ⟨some 21, .call 320, [.t 20, .k (.fn 322 [] [])], none⟩,
    ⟨some 22, .pur (.un .not), [.t 21], none⟩,
    ⟨some 2, .pur .mov, [.t 22], none⟩]) <|
  .ret
def f222 : AFunc := ⟨23, f222b, [.tmp 2]⟩
/- 224 slices.EqualFunc[[]sluiceway/api.Term,[]sluiceway/api.Term,sluiceway/api.Term,sluiceway/api.Term] -/
def f224_l0 : ACode :=
  .seq (.ops [
    ⟨some 18, .pur (.bin .lss), [.t 17, .t 16], none⟩]) <|
  .seq (.cond (.t 18) (.skip) (.exit 0)) <|
  .seq (.block 1 (.seq (.ops [
      ⟨some 19, .pur .mov, [.t 17], none⟩,
      ⟨some 20, .pur (.iaddr 3), [.t 15, .t 17], none⟩,
      ⟨some 21, .ld none 3 true, [.t 20], none⟩,
      ⟨some 8, .alloc .reg [.i (0), .s ⟨#[]⟩, .lst 0 true []], [], none⟩,
      ⟨some 7, .pur .mov, [.t 19], none⟩,
      ⟨none, .st (some 8) 3, [.t 8, .t 21], none⟩]) <|
    .seq (.ops [
      ⟨some 22, .pur .mov, [.t 1], none⟩,
      ⟨some 23, .pur .mov, [.t 7], none⟩,
      ⟨some 24, .pur (.iaddr 3), [.t 22, .t 23], none⟩,
      ⟨some 25, .ld none 3 true, [.t 24], none⟩,
      ⟨some 9, .alloc .reg [.i (0), .s ⟨#[]⟩, .lst 0 true []], [], none⟩,
      ⟨none, .st (some 9) 3, [.t 9, .t 25], none⟩]) <|
    .seq (.ops [
      ⟨some 26, .pur .mov, [.t 2], none⟩,
      ⟨some 27, .ld (some 8) 3 true, [.t 8], none⟩,
      ⟨some 28, .ld (some 9) 3 true, [.t 9], none⟩,
      ⟨some 29, .callv, [.t 26, .t 27, .t 28], none⟩,
      ⟨some 30, .pur (.un .not), [.t 29], none⟩]) <|
    .cond (.t 30) (.seq (.ops [
        ⟨some 6, .pur .mov, [.k (.b false)], none⟩]) <|
      .ret) (.skip))) <|
  .ops [
    ⟨some 31, .pur (.bin .add), [.t 17, .k (.i (1))], none⟩,
    ⟨some 17, .pur .mov, [.t 31], none⟩]
def f224b : ACode :=
  .seq (.ops [
    ⟨some 6, .pur .mov, [.k (.b false)], none⟩]) <|
  .seq (.seq (.ops [
    ⟨some 10, .pur .mov, [.t 0], none⟩,
    ⟨some 11, .pur .lenL, [.t 10], none⟩,
    ⟨some 12, .pur .mov, [.t 1], none⟩,
    ⟨some 13, .pur .lenL, [.t 12], none⟩,
    ⟨some 14, .pur (.bin .neq), [.t 11, .t 13], none⟩]) <|
  .cond (.t 14) (.seq (.ops [
      ⟨some 6, .pur .mov, [.k (.b false)], none⟩]) <|
    .ret) (.skip)) <|
  .seq (.seq (.ops [
    ⟨some 15, .pur .mov, [.t 0], none⟩,
    ⟨some 16, .pur .lenL, [.t 15], none⟩,
    ⟨some 17, .pur .mov, [.k (.i (0))], none⟩]) <|
  .block 0 (.loop [6, 7, 8, 9, 18, 19, 20, 21, 22, 23, 24, 25, 26, 27, 28, 29, 30, 31] [8, 9] f224_l0)) <|
  .seq (.ops [
    ⟨some 6, .pur .mov, [.k (.b true)], none⟩]) <|
  .ret
def f224 : AFunc := ⟨32, f224b, [.tmp 6]⟩
/- 227 sluiceway/term.text -/
def f227_l0 : ACode :=
  .seq (.ops [
    ⟨some 39, .pur (.bin .lss), [.t 38, .t 37], none⟩]) <|
  .seq (.cond (.t 39) (.skip) (.exit 0)) <|
  .seq (.block 1 (.seq (.ops [
      ⟨some 40, .pur (.iaddr 3), [.t 36, .t 38], none⟩,
      ⟨some 41, .ld none 3 true, [.t 40], none⟩,
      ⟨some 6, .alloc .reg [.i (0), .s ⟨#[]⟩, .lst 0 true []], [], none⟩,
      ⟨none, .st (some 6) 3, [.t 6, .t 41], none⟩]) <|
    .ops [
      ⟨some 42, .pur .mov, [.t 4], none⟩,
      ⟨some 43, .ld (some 6) 3 true, [.t 6], none⟩,
      ⟨some 44, .call 227, [.t 43], none⟩,
      ⟨some 45, .pur (.buildSl 1 1 [.s ⟨#[]⟩] [0]), [.t 44], none⟩,
      ⟨some 46, .append 1 16, [.t 42, .t 45], none⟩,
      ⟨some 4, .pur .mov, [.t 46], none⟩])) <|
  .ops [
    ⟨some 47, .pur (.bin .add), [.t 38, .k (.i (1))], none⟩,
    ⟨some 38, .pur .mov, [.t 47], none⟩]
def f227b : ACode :=
  .seq (.ops [
    ⟨some 1, .box .reg, [.t 0], none⟩,
    ⟨some 2, .pur .mov, [.k (.s ⟨#[]⟩)], none⟩]) <|
  .seq (.ops [
    ⟨some 7, .pur (.faddr 0), [.t 1], none⟩,
    ⟨some 8, .ld (some 1) 1 false, [.t 7], none⟩,
    ⟨some 9, .pur (.iaddrA 3 11), [.g 0, .t 8], none⟩,
    ⟨some 10, .pur (.faddr 0), [.t 9], none⟩,
    ⟨some 11, .ld none 1 false, [.t 10], none⟩,
    ⟨some 3, .pur .mov, [.t 11], none⟩]) <|
  .seq (.seq (.ops [
    ⟨some 12, .pur (.faddr 1), [.t 1], none⟩,
    ⟨some 13, .ld (some 1) 1 false, [.t 12], none⟩,
    ⟨some 14, .pur (.bin .neq), [.t 13, .k (.s ⟨#[]⟩)], none⟩]) <|
  .cond (.t 14) (.ops [
      ⟨some 15, .pur .mov, [.t 3], none⟩,
      ⟨some 16, .pur (.faddr 1), [.t 1], none⟩,
      ⟨some 17, .ld (some 1) 1 false, [.t 16], none⟩,
      ⟨some 18, .pur .lenS, [.t 17], none⟩,
      ⟨some 19, .call 193, [.t 18], none⟩,
      ⟨some 20, .pur (.bin .add), [.t 19, .k (.s ⟨#[58]⟩)], none⟩,
      ⟨some 21, .pur (.faddr 1), [.t 1], none⟩,
      ⟨some 22, .ld (some 1) 1 false, [.t 21], none⟩,
      ⟨some 23, .pur (.bin .add), [.t 20, .t 22], none⟩,
      ⟨some 24, .pur (.bin .add), [.t 15, .t 23], none⟩,
      ⟨some 3, .pur .mov, [.t 24], none⟩]) (.skip)) <|
  .seq (.seq (.ops [
    ⟨some 25, .pur (.faddr 2), [.t 1], none⟩,
    ⟨some 26, .ld (some 1) 1 false, [.t 25], none⟩,
    ⟨some 27, .pur .lenL, [.t 26], none⟩,
    ⟨some 28, .pur (.bin .eql), [.t 27, .k (.i (0))], none⟩,
    ⟨some 29, .pur .mov, [.t 28], none⟩,
    ⟨some 30, .pur (.faddr 0), [.t 1], some (29, true)⟩,
    ⟨some 31, .ld (some 1) 1 false, [.t 30], some (29, true)⟩,
    ⟨some 32, .pur (.bin .neq), [.t 31, .k (.i (3))], some (29, true)⟩,
    ⟨some 33, .pur .pick, [.t 29, .t 32, .k (.b false)], none⟩]) <|
  .cond (.t 33) (.seq (.ops [
      ⟨some 34, .pur .mov, [.t 3], none⟩,
      ⟨some 2, .pur .mov, [.t 34], none⟩]) <|
    .ret) (.skip)) <|
  .seq (.ops [
    ⟨some 4, .pur .mov, [.k (.lst 0 true [])], none⟩]) <|
  .seq (.seq (.ops [
    ⟨some 35, .pur (.faddr 2), [.t 1], none⟩,
    ⟨some 36, .ld (some 1) 1 false, [.t 35], none⟩,
    ⟨some 37, .pur .lenL, [.t 36], none⟩,
    ⟨some 38, .pur .mov, [.k (.i (0))], none⟩]) <|
  .block 0 (.loop [6, 39, 40, 41, 42, 43, 44, 45, 46, 47] [6] f227_l0)) <|
  .seq (.ops [
    ⟨some 48, .pur .mov, [.t 3], none⟩,
    ⟨some 49, .pur (.bin .add), [.t 48, .k (.s ⟨#[40]⟩)], none⟩,
    ⟨some 50, .pur .mov, [.t 4], none⟩,
    ⟨some 51, .call 324, [.t 50, .k (.s ⟨#[44]⟩)], none⟩,
    ⟨some 52, .pur (.bin .add), [.t 49, .t 51], none⟩,
    ⟨some 53, .pur (.bin .add), [.t 52, .k (.s ⟨#[41]⟩)], none⟩,
    ⟨some 2, .pur .mov, [.t 53], none⟩]) <|
  .ret
def f227 : AFunc := ⟨54, f227b, [.tmp 2]⟩
/- 228 sluiceway/term.made -/
def f228b : ACode :=
  .seq (.ops [
    ⟨some 6, .alloc .reg [.i (0), .s ⟨#[]⟩, .lst 0 true []], [], none⟩]) <|
  .seq (.ops [
    ⟨some 7, .pur .mov, [.t 0], none⟩,
    ⟨some 8, .pur .mov, [.t 1], none⟩,
    ⟨some 9, .pur .mov, [.t 2], none⟩,
    ⟨some 10, .call 256, [.t 9], none⟩,
    ⟨some 11, .pur (.build [.i (0), .s ⟨#[]⟩, .lst 0 true []] [(0, 1), (1, 1), (2, 1)]), [.t 7, .t 8, .t 10], none⟩,
    ⟨none, .st (some 6) 3, [.t 6, .t 11], none⟩]) <|
  .ret
def f228 : AFunc := ⟨12, f228b, [.cell 6 3 true]⟩
/- 229 sluiceway/term.Less -/
def f229b : ACode :=
  .seq (.ops [
    ⟨some 2, .box .reg, [.t 0], none⟩,
    ⟨some 3, .box .reg, [.t 1], none⟩,
    ⟨some 4, .pur .mov, [.k (.b false)], none⟩]) <|
  .seq (.ops [
    ⟨some 5, .ld (some 2) 3 true, [.t 2], none⟩,
    ⟨some 6, .call 121, [.t 5], none⟩,
    ⟨some 7, .ld (some 3) 3 true, [.t 3], none⟩,
    ⟨some 8, .call 121, [.t 7], none⟩,
    ⟨some 9, .pur (.bin .lss), [.t 6, .t 8], none⟩,
    ⟨some 4, .pur .mov, [.t 9], none⟩]) <|
  .ret
def f229 : AFunc := ⟨10, f229b, [.tmp 4]⟩
/- 230 sluiceway/deduce.analyzed -/
def f230_l0 : ACode :=
  .seq (.ops [
    ⟨some 63, .pur (.bin .lss), [.t 62, .t 61], none⟩]) <|
  .seq (.cond (.t 63) (.skip) (.exit 4)) <|
  .seq (.block 5 (.seq (.ops [
      ⟨some 64, .pur (.iaddr 3), [.t 60, .t 62], none⟩,
      ⟨some 65, .ld none 3 true, [.t 64], none⟩,
      ⟨some 12, .alloc .reg [.i (0), .s ⟨#[]⟩, .lst 0 true []], [], none⟩,
      ⟨none, .st (some 12) 3, [.t 12, .t 65], none⟩]) <|
    .ops [
      ⟨some 66, .pur .mov, [.t 3], none⟩,
      ⟨some 67, .ld (some 12) 3 true, [.t 12], none⟩,
      ⟨some 68, .call 327, [.t 66, .t 67], none⟩])) <|
  .ops [
    ⟨some 69, .pur (.bin .add), [.t 62, .k (.i (1))], none⟩,
    ⟨some 62, .pur .mov, [.t 69], none⟩]

def f230_l1 : ACode :=
  .seq (.ops [
    ⟨some 34, .pur (.bin .lss), [.t 33, .t 32], none⟩]) <|
  .seq (.cond (.t 34) (.skip) (.exit 2)) <|
  .seq (.block 3 (.seq (.ops [
      ⟨some 35, .pur (.iaddr 3), [.t 31, .t 33], none⟩,
      ⟨some 36, .ld none 3 true, [.t 35], none⟩,
      ⟨some 8, .alloc .reg [.i (0), .s ⟨#[]⟩, .lst 0 true []], [], none⟩,
      ⟨none, .st (some 8) 3, [.t 8, .t 36], none⟩]) <|
    .seq (.ops [
      ⟨some 38, .pur .mov, [.t 4], none⟩,
      ⟨some 39, .pur (.faddr 0), [.t 8], none⟩,
      ⟨some 40, .ld (some 8) 1 false, [.t 39], none⟩,
      ⟨some 41, .lookup false (.agg [.sc .nilFunc, .sc .nilFunc]) true, [.t 38, .t 40], none⟩,
      ⟨some 37, .pur .mov, [.t 41], none⟩,
      ⟨some 42, .pur (.extract 0), [.t 37], none⟩,
      ⟨some 43, .pur (.extract 1), [.t 37], none⟩,
      ⟨some 9, .alloc .reg [.sc .nilFunc, .sc .nilFunc], [], none⟩,
      ⟨none, .st (some 9) 2, [.t 9, .t 42], none⟩,
      ⟨some 10, .pur .mov, [.t 43], none⟩]) <|
    .seq (.ops [
      ⟨some 44, .pur .mov, [.t 10], none⟩,
      ⟨some 45, .pur .mov, [.t 44], none⟩,
      ⟨some 46, .pur .mov, [.t 3], some (45, true)⟩,
      ⟨some 47, .pur (.faddr 0), [.t 9], some (45, true)⟩,
      ⟨some 48, .ld (some 9) 1 false, [.t 47], some (45, true)⟩,
      ⟨some 49, .ld (some 8) 3 true, [.t 8], some (45, true)⟩,
      ⟨some 50, .callv, [.t 48, .t 49], some (45, true)⟩,
      ⟨some 51, .call 326, [.t 46, .t 50], some (45, true)⟩,
      ⟨some 52, .pur .pick, [.t 45, .t 51, .k (.b false)], none⟩]) <|
    .cond (.t 52) (.ops [
        ⟨some 53, .pur .mov, [.t 6], none⟩,
        ⟨some 54, .pur (.faddr 1), [.t 9], none⟩,
        ⟨some 55, .ld (some 9) 1 false, [.t 54], none⟩,
        ⟨some 56, .ld (some 8) 3 true, [.t 8], none⟩,
        ⟨some 57, .callv, [.t 55, .t 56], none⟩,
        ⟨some 58, .append 3 48, [.t 53, .t 57], none⟩,
        ⟨some 6, .pur .mov, [.t 58], none⟩]) (.skip))) <|
  .ops [
    ⟨some 59, .pur (.bin .add), [.t 33, .k (.i (1))], none⟩,
    ⟨some 33, .pur .mov, [.t 59], none⟩]

def f230_l2 : ACode :=
  .seq (.seq (.ops [
    ⟨some 16, .pur .mov, [.t 5], none⟩,
    ⟨some 17, .pur .mov, [.t 3], none⟩,
    ⟨some 18, .pur .nilchk, [.t 17], none⟩,
    ⟨some 19, .pur (.faddr 0), [.t 18], none⟩,
    ⟨some 20, .ld none 1 false, [.t 19], none⟩,
    ⟨some 21, .pur .lenL, [.t 20], none⟩,
    ⟨some 22, .pur (.bin .lss), [.t 16, .t 21], none⟩]) <|
  .cond (.t 22) (.skip) (.exit 0)) <|
  .block 1 (.seq (.ops [
      ⟨some 23, .pur .mov, [.t 3], none⟩,
      ⟨some 24, .pur .nilchk, [.t 23], none⟩,
      ⟨some 25, .pur (.faddr 0), [.t 24], none⟩,
      ⟨some 26, .ld none 1 false, [.t 25], none⟩,
      ⟨some 27, .pur .lenL, [.t 26], none⟩,
      ⟨some 5, .pur .mov, [.t 27], none⟩]) <|
    .seq (.ops [
      ⟨some 6, .pur .mov, [.k (.lst 0 true [])], none⟩]) <|
    .seq (.seq (.ops [
      ⟨some 28, .pur .mov, [.t 3], none⟩,
      ⟨some 29, .pur .nilchk, [.t 28], none⟩,
      ⟨some 30, .pur (.faddr 0), [.t 29], none⟩,
      ⟨some 31, .ld none 1 false, [.t 30], none⟩,
      ⟨some 32, .pur .lenL, [.t 31], none⟩,
      ⟨some 33, .pur .mov, [.k (.i (0))], none⟩]) <|
    .block 2 (.loop [8, 9, 10, 34, 35, 36, 37, 38, 39, 40, 41, 42, 43, 44, 45, 46, 47, 48, 49, 50, 51, 52, 53, 54, 55, 56, 57, 58, 59] [8, 9] f230_l1)) <|
    .seq (.ops [
      ⟨some 60, .pur .mov, [.t 6], none⟩,
      ⟨some 61, .pur .lenL, [.t 60], none⟩,
      ⟨some 62, .pur .mov, [.k (.i (0))], none⟩]) <|
    .block 4 (.loop [12, 63, 64, 65, 66, 67, 68, 69] [12] f230_l0))
def f230b : ACode :=
  .seq (.ops [
    ⟨some 2, .pur .mov, [.k (.sc (.pointer none))], none⟩]) <|
  .seq (.ops [
    ⟨some 13, .pur .mov, [.t 0], none⟩,
    ⟨some 14, .call 257, [.t 13], none⟩,
    ⟨some 15, .call 325, [], none⟩,
    ⟨some 3, .pur .mov, [.t 14], none⟩,
    ⟨some 4, .pur .mov, [.t 15], none⟩]) <|
  .seq (.seq (.ops [
    ⟨some 5, .pur .mov, [.k (.i (-1))], none⟩]) <|
  .block 0 (.loop [6, 8, 9, 10, 12, 16, 17, 18, 19, 20, 21, 22, 23, 24, 25, 26, 27, 28, 29, 30, 31, 32, 33, 34, 35, 36, 37, 38, 39, 40, 41, 42, 43, 44, 45, 46, 47, 48, 49, 50, 51, 52, 53, 54, 55, 56, 57, 58, 59, 60, 61, 62, 63, 64, 65, 66, 67, 68, 69] [8, 9, 12] f230_l2)) <|
  .seq (.ops [
    ⟨some 70, .pur .mov, [.t 3], none⟩,
    ⟨some 2, .pur .mov, [.t 70], none⟩]) <|
  .ret
def f230 : AFunc := ⟨71, f230b, [.tmp 2]⟩
/- 231 (*sluiceway/deduce.Known).Makes -/
def f231b : ACode :=
  .seq (.ops [
    ⟨some 3, .box .reg, [.t 1], none⟩,
    ⟨some 4, .pur .mov, [.k (.b false)], none⟩]) <|
  .seq (.ops [
    ⟨some 5, .pur .mov, [.t 0], none⟩,
    ⟨some 6, .ld (some 3) 3 true, [.t 3], none⟩,
    ⟨some 7, .call 254, [.t 6], none⟩,
    ⟨some 8, .call 328, [.t 5, .t 7], none⟩,
    ⟨some 4, .pur .mov, [.t 8], none⟩]) <|
  .ret
def f231 : AFunc := ⟨9, f231b, [.tmp 4]⟩
/- 249 sluiceway/sluicewayref04.Number -/
def f249_l0 : ACode :=
  .seq (.seq (.ops [
    ⟨some 5, .pur .mov, [.t 4], none⟩,
    ⟨some 6, .pur (.bin .lss), [.t 5, .k (.i (20))], none⟩,
    ⟨some 7, .pur .mov, [.t 6], none⟩,
    ⟨some 8, .pur .mov, [.t 4], some (7, true)⟩,
    ⟨some 9, .pur (.bin .eql), [.t 8, .k (.i (0))], some (7, true)⟩,
    ⟨some 10, .pur .mov, [.t 9], some (7, true)⟩,
    ⟨some 11, .pur .mov, [.t 0], some (10, false)⟩,
    ⟨some 12, .pur (.bin .gtr), [.t 11, .k (.i (0))], some (10, false)⟩,
    ⟨some 13, .pur .pick, [.t 10, .k (.b true), .t 12], some (7, true)⟩,
    ⟨some 14, .pur .pick, [.t 7, .t 13, .k (.b false)], none⟩]) <|
  .cond (.t 14) (.skip) (.exit 0)) <|
  .seq (.block 1 (.seq (.ops [
      ⟨some 17, .pur .mov, [.t 0], none⟩,
      ⟨some 18, .pur (.bin .rem), [.t 17, .k (.i (10))], none⟩,
      ⟨some 19, .pur (.bin .add), [.k (.i (48)), .t 18], none⟩,
      ⟨some 20, .pur (.toInt .u8), [.t 19], none⟩,
      ⟨some 21, .pur (.buildSl 1 1 [.sc (.int .u8 (0))] [0]), [.t 20], none⟩,
      ⟨some 22, .pur .bytesStr, [.t 21], none⟩,
      ⟨some 23, .pur .mov, [.t 3], none⟩,
      ⟨some 24, .pur (.bin .add), [.t 22, .t 23], none⟩,
      ⟨some 3, .pur .mov, [.t 24], none⟩]) <|
    .ops [
      ⟨some 25, .pur .mov, [.t 0], none⟩,
      ⟨some 26, .pur (.bin .quo), [.t 25, .k (.i (10))], none⟩,
      ⟨some 0, .pur .mov, [.t 26], none⟩])) <|
  .ops [
    ⟨some 15, .pur .mov, [.t 4], none⟩,
    ⟨some 16, .pur (.bin .add), [.t 15, .k (.i (1))], none⟩,
    ⟨some 4, .pur .mov, [.t 16], none⟩]
def f249b : ACode :=
  .seq (.ops [
    ⟨some 2, .pur .mov, [.k (.s ⟨#[]⟩)], none⟩]) <|
  .seq (.ops [
    ⟨some 3, .pur .mov, [.k (.s ⟨#[]⟩)], none⟩]) <|
  .seq (.seq (.ops [
    ⟨some 4, .pur .mov, [.k (.i (0))], none⟩]) <|
  .block 0 (.loop [5, 6, 7, 8, 9, 10, 11, 12, 13, 14, 15, 16, 17, 18, 19, 20, 21, 22, 23, 24, 25, 26] [] f249_l0)) <|
  .seq (.ops [
    ⟨some 27, .pur .mov, [.t 3], none⟩,
    ⟨some 2, .pur .mov, [.t 27], none⟩]) <|
  .ret
def f249 : AFunc := ⟨28, f249b, [.tmp 2]⟩
/- 254 sluiceway/term.Canon -/
def f254_l0 : ACode :=
  .seq (.ops [
    ⟨some 13, .pur (.bin .lss), [.t 12, .t 11], none⟩]) <|
  .seq (.cond (.t 13) (.skip) (.exit 0)) <|
  .seq (.block 1 (.seq (.ops [
      ⟨some 14, .pur .mov, [.t 12], none⟩,
      ⟨some 15, .pur (.iaddr 3), [.t 10, .t 12], none⟩,
      ⟨some 16, .ld none 3 true, [.t 15], none⟩,
      ⟨some 4, .alloc .reg [.i (0), .s ⟨#[]⟩, .lst 0 true []], [], none⟩,
      ⟨some 3, .pur .mov, [.t 14], none⟩,
      ⟨none, .st (some 4) 3, [.t 4, .t 16], none⟩]) <|
    .ops [
      ⟨some 17, .pur (.faddr 2), [.t 1], none⟩,
      ⟨some 18, .ld (some 1) 1 false, [.t 17], none⟩,
      ⟨some 19, .pur .mov, [.t 3], none⟩,
      ⟨some 20, .ld (some 4) 3 true, [.t 4], none⟩,
      ⟨some 21, .call 254, [.t 20], none⟩,
      ⟨some 22, .pur (.iaddr 3), [.t 18, .t 19], none⟩,
      ⟨none, .st none 3, [.t 22, .t 21], none⟩])) <|
  .ops [
    ⟨some 23, .pur (.bin .add), [.t 12, .k (.i (1))], none⟩,
    ⟨some 12, .pur .mov, [.t 23], none⟩]
def f254b : ACode :=
  .seq (.ops [
    ⟨some 1, .box .reg, [.t 0], none⟩,
    ⟨some 2, .alloc .reg [.i (0), .s ⟨#[]⟩, .lst 0 true []], [], none⟩]) <|
  .seq (.ops [
    ⟨some 5, .pur (.faddr 2), [.t 1], none⟩,
    ⟨some 6, .ld (some 1) 1 false, [.t 5], none⟩,
    ⟨some 7, .call 256, [.t 6], none⟩,
    ⟨some 8, .pur (.faddr 2), [.t 1], none⟩,
    ⟨none, .st (some 1) 1, [.t 8, .t 7], none⟩]) <|
  .seq (.seq (.ops [
    ⟨some 9, .pur (.faddr 2), [.t 1], none⟩,
    ⟨some 10, .ld (some 1) 1 false, [.t 9], none⟩,
    ⟨some 11, .pur .lenL, [.t 10], none⟩,
    ⟨some 12, .pur .mov, [.k (.i (0))], none⟩]) <|
  .block 0 (.loop [3, 4, 13, 14, 15, 16, 17, 18, 19, 20, 21, 22, 23] [4] f254_l0)) <|
  .seq (.seq (.ops [
    ⟨some 24, .pur (.faddr 0), [.t 1], none⟩,
    ⟨some 25, .ld (some 1) 1 false, [.t 24], none⟩,
    ⟨some 26, .pur (.bin .eql), [.t 25, .k (.i (9))], none⟩,
    ⟨some 27, .pur .mov, [.t 26], none⟩,
    ⟨some 28, .pur (.faddr 2), [.t 1], some (27, true)⟩,
    ⟨some 29, .ld (some 1) 1 false, [.t 28], some (27, true)⟩,
    ⟨some 30, .pur .lenL, [.t 29], some (27, true)⟩,
    ⟨some 31, .pur (.bin .eql), [.t 30, .k (.i (2))], some (27, true)⟩,
    ⟨some 32, .pur .pick, [.t 27, .t 31, .k (.b false)], none⟩,
    ⟨some 33, .pur .mov, [.t 32], none⟩,
    ⟨some 34, .pur (.faddr 2), [.t 1], some (33, true)⟩,
    ⟨some 35, .ld (some 1) 1 false, [.t 34], some (33, true)⟩,
    ⟨some 36, .pur (.iaddr 3), [.t 35, .k (.i (1))], some (33, true)⟩,
    ⟨some 37, .ld none 3 true, [.t 36], some (33, true)⟩,
    ⟨some 38, .pur (.faddr 2), [.t 1], some (33, true)⟩,
    ⟨some 39, .ld (some 1) 1 false, [.t 38], some (33, true)⟩,
    ⟨some 40, .pur (.iaddr 3), [.t 39, .k (.i (0))], some (33, true)⟩,
    ⟨some 41, .ld none 3 true, [.t 40], some (33, true)⟩,
    ⟨some 42, .call 229, [.t 37, .t 41], some (33, true)⟩,
    ⟨some 43, .pur .pick, [.t 33, .t 42, .k (.b false)], none⟩]) <|
  .cond (.t 43) (.ops [
      ⟨some 44, .pur (.faddr 2), [.t 1], none⟩,
      ⟨some 45, .ld (some 1) 1 false, [.t 44], none⟩,
      ⟨some 46, .call 355, [.t 45], none⟩]) (.skip)) <|
  .seq (.ops [
    ⟨some 47, .ld (some 1) 3 true, [.t 1], none⟩,
    ⟨none, .st (some 2) 3, [.t 2, .t 47], none⟩]) <|
  .ret
def f254 : AFunc := ⟨48, f254b, [.cell 2 3 true]⟩
/- 255 sluiceway/deduce.Analyze -/
def f255b : ACode :=
  .seq (.ops [
    ⟨some 2, .pur .mov, [.k (.lst 0 true [])], none⟩]) <|
  .seq (.ops [
    ⟨some 3, .pur .mov, [.t 0], none⟩,
    ⟨some 4, .call 230, [.t 3], none⟩,
    ⟨some 5, .pur .nilchk, [.t 4], none⟩,
    ⟨some 6, .pur (.faddr 0), [.t 5], none⟩,
    ⟨some 7, .ld none 1 false, [.t 6], none⟩,
    ⟨some 2, .pur .mov, [.t 7], none⟩]) <|
  .ret
def f255 : AFunc := ⟨8, f255b, [.tmp 2]⟩
/- 257 sluiceway/deduce.Of -/
def f257_l0 : ACode :=
  .seq (.ops [
    ⟨some 13, .pur (.bin .lss), [.t 12, .t 11], none⟩]) <|
  .seq (.cond (.t 13) (.skip) (.exit 0)) <|
  .seq (.block 1 (.seq (.ops [
      ⟨some 14, .pur (.iaddr 3), [.t 10, .t 12], none⟩,
      ⟨some 15, .ld none 3 true, [.t 14], none⟩,
      ⟨some 5, .alloc .reg [.i (0), .s ⟨#[]⟩, .lst 0 true []], [], none⟩,
      ⟨none, .st (some 5) 3, [.t 5, .t 15], none⟩]) <|
    .ops [
      ⟨some 16, .pur .mov, [.t 3], none⟩,
      ⟨some 17, .ld (some 5) 3 true, [.t 5], none⟩,
      ⟨some 18, .call 327, [.t 16, .t 17], none⟩])) <|
  .ops [
    ⟨some 19, .pur (.bin .add), [.t 12, .k (.i (1))], none⟩,
    ⟨some 12, .pur .mov, [.t 19], none⟩]
def f257b : ACode :=
  .seq (.ops [
    ⟨some 2, .pur .mov, [.k (.sc (.pointer none))], none⟩]) <|
  .seq (.ops [
    ⟨some 6, .mkmap, [], none⟩,
    ⟨some 7, .mkmap, [], none⟩,
    ⟨some 8, .pur (.build [.lst 0 true [], .sc (.map none), .sc (.map none)] [(1, 1), (2, 1)]), [.t 6, .t 7], none⟩,
    ⟨some 9, .box .heap, [.t 8], none⟩,
    ⟨some 3, .pur .mov, [.t 9], none⟩]) <|
  .seq (.seq (.ops [
    ⟨some 10, .pur .mov, [.t 0], none⟩,
    ⟨some 11, .pur .lenL, [.t 10], none⟩,
    ⟨some 12, .pur .mov, [.k (.i (0))], none⟩]) <|
  .block 0 (.loop [5, 13, 14, 15, 16, 17, 18, 19] [5] f257_l0)) <|
  .seq (.ops [
    ⟨some 20, .pur .mov, [.t 3], none⟩,
    ⟨some 2, .pur .mov, [.t 20], none⟩]) <|
  .ret
def f257 : AFunc := ⟨21, f257b, [.tmp 2]⟩
/- 258 (sluiceway/offline.views).tests -/
def f258b : ACode :=
  .seq (.ops [
    ⟨some 1, .pur .ibox, [.t 0], none⟩,
    ⟨some 2, .pur .mov, [.k (.sc (.map none))], none⟩]) <|
  .seq (.ops [
    ⟨some 4, .pur (.mkfn 356 0), [.t 1], none⟩,
    ⟨some 3, .pur .mov, [.t 4], none⟩]) <|
  .seq (.ops [
    ⟨some 5, .mkmap, [], none⟩,
    ⟨some 6, .pur (.mkfn 358 0), [.t 1], none⟩,
    ⟨none, .mapset false, [.t 5, .k (.i (4)), .t 6], none⟩,
    ⟨some 7, .pur .mov, [.t 3], none⟩,
    ⟨none, .mapset false, [.t 5, .k (.i (5)), .t 7], none⟩,
    ⟨some 8, .pur .mov, [.t 3], none⟩,
    ⟨none, .mapset false, [.t 5, .k (.i (6)), .t 8], none⟩,
    ⟨some 9, .pur .mov, [.t 3], none⟩,
    ⟨none, .mapset false, [.t 5, .k (.i (7)), .t 9], none⟩,
    ⟨some 10, .pur .mov, [.t 3], none⟩,
    ⟨none, .mapset false, [.t 5, .k (.i (8)), .t 10], none⟩,
    ⟨some 11, .pur (.mkfn 359 0), [.t 1], none⟩,
    ⟨none, .mapset false, [.t 5, .k (.i (9)), .t 11], none⟩,
    ⟨some 12, .pur (.mkfn 361 0), [.t 1], none⟩,
    ⟨none, .mapset false, [.t 5, .k (.i (10)), .t 12], none⟩,
    ⟨some 13, .pur .mov, [.t 5], none⟩,
    ⟨some 2, .pur .mov, [.t 13], none⟩]) <|
  .ret
def f258 : AFunc := ⟨14, f258b, [.tmp 2]⟩
/- 259 sluiceway/sluicewayref10.Kdf -/
def f259b : ACode :=
  .seq (.ops [
    ⟨some 2, .box .reg, [.t 0], none⟩,
    ⟨some 4, .alloc .reg [.i (0), .s ⟨#[]⟩, .lst 0 true []], [], none⟩]) <|
  .seq (.ops [
    ⟨some 5, .pur .mov, [.t 1], none⟩,
    ⟨some 6, .ld (some 2) 3 true, [.t 2], none⟩,
    ⟨some 7, .pur (.buildSl 3 1 [.i (0), .s ⟨#[]⟩, .lst 0 true []] [0]), [.t 6], none⟩,
    ⟨some 8, .pur (.build [.i (0), .s ⟨#[]⟩, .lst 0 true []] [(0, 1), (1, 1), (2, 1)]), [.k (.i (7)), .t 5, .t 7], none⟩,
    ⟨none, .st (some 4) 3, [.t 4, .t 8], none⟩]) <|
  .ret
def f259 : AFunc := ⟨9, f259b, [.cell 4 3 true]⟩
/- 261 sluiceway/armor.Seal -/
def f261b : ACode :=
  .seq (.ops [
    ⟨some 3, .box .reg, [.t 0], none⟩,
    ⟨some 5, .box .reg, [.t 2], none⟩,
    ⟨some 6, .alloc .reg [.i (0), .s ⟨#[]⟩, .lst 0 true []], [], none⟩]) <|
  .seq (.ops [
    ⟨some 7, .ld (some 3) 3 true, [.t 3], none⟩,
    ⟨some 8, .pur .mov, [.t 1], none⟩,
    ⟨some 9, .call 354, [.t 7, .t 8], none⟩,
    ⟨some 10, .ld (some 5) 3 true, [.t 5], none⟩,
    ⟨some 11, .call 128, [.t 9, .t 10], none⟩,
    ⟨none, .st (some 6) 3, [.t 6, .t 11], none⟩]) <|
  .ret
def f261 : AFunc := ⟨12, f261b, [.cell 6 3 true]⟩
/- 262 sluiceway/mech.challenged -/
def f262b : ACode :=
  .seq (.ops [
    ⟨some 2, .box .reg, [.t 0], none⟩,
    ⟨some 3, .box .reg, [.t 1], none⟩,
    ⟨some 4, .alloc .reg [.i (0), .s ⟨#[]⟩, .lst 0 true []], [], none⟩]) <|
  .seq (.ops [
    ⟨some 5, .ld (some 2) 3 true, [.t 2], none⟩,
    ⟨some 6, .ld (some 3) 3 true, [.t 3], none⟩,
    ⟨some 7, .call 350, [.t 5, .t 6, .k (.s ⟨#[99, 108, 105, 101, 110, 116, 99, 104, 97, 108, 108, 101, 110, 103, 101, 97, 114, 109, 111, 114]⟩), .k (.s ⟨#[99, 104, 97, 108, 108, 101, 110, 103, 101, 108, 111, 110, 103, 116, 101, 114, 109]⟩)], none⟩,
    ⟨none, .st (some 4) 3, [.t 4, .t 7], none⟩]) <|
  .ret
def f262 : AFunc := ⟨8, f262b, [.cell 4 3 true]⟩
/- 263 sluiceway/armor.Unseal -/
def f263b : ACode :=
  .seq (.ops [
    ⟨some 3, .box .reg, [.t 0], none⟩,
    ⟨some 5, .box .reg, [.t 2], none⟩,
    ⟨some 6, .alloc .reg [.i (0), .s ⟨#[]⟩, .lst 0 true []], [], none⟩,
    ⟨some 7, .pur .mov, [.k (.i (0))], none⟩]) <|
  .seq (.block 0 (.seq (.ops [
      ⟨some 9, .pur (.faddr 0), [.t 5], none⟩,
      ⟨some 10, .ld (some 5) 1 false, [.t 9], none⟩,
      ⟨some 11, .pur (.bin .neq), [.t 10, .k (.i (4))], none⟩,
      ⟨some 12, .pur .mov, [.t 11], none⟩,
      ⟨some 13, .pur (.faddr 2), [.t 5], some (12, false)⟩,
      ⟨some 14, .ld (some 5) 1 false, [.t 13], some (12, false)⟩,
      ⟨some 15, .pur .lenL, [.t 14], some (12, false)⟩,
      ⟨some 16, .pur (.bin .neq), [.t 15, .k (.i (2))], some (12, false)⟩,
      ⟨some 17, .pur .pick, [.t 12, .k (.b true), .t 16], none⟩,
      ⟨some 8, .pur .mov, [.t 17], none⟩]) <|
    .cond (.t 8) (.seq (.ops [
        ⟨some 18, .pur (.build [.i (0), .s ⟨#[]⟩, .lst 0 true []] []), [], none⟩,
        ⟨none, .st (some 6) 3, [.t 6, .t 18], none⟩,
        ⟨some 7, .pur .mov, [.k (.i (2))], none⟩]) <|
      .ret) (.seq (.ops [
        ⟨some 20, .pur (.faddr 2), [.t 5], none⟩,
        ⟨some 21, .ld (some 5) 1 false, [.t 20], none⟩,
        ⟨some 22, .pur (.iaddr 3), [.t 21, .k (.i (0))], none⟩,
        ⟨some 23, .ld none 3 true, [.t 22], none⟩,
        ⟨some 24, .ld (some 3) 3 true, [.t 3], none⟩,
        ⟨some 25, .pur .mov, [.t 1], none⟩,
        ⟨some 26, .call 354, [.t 24, .t 25], none⟩,
        ⟨some 27, .call 118, [.t 23, .t 26], none⟩,
        ⟨some 28, .pur (.un .not), [.t 27], none⟩,
        ⟨some 19, .pur .mov, [.t 28], none⟩]) <|
      .cond (.t 19) (.seq (.ops [
          ⟨some 29, .pur (.build [.i (0), .s ⟨#[]⟩, .lst 0 true []] []), [], none⟩,
          ⟨none, .st (some 6) 3, [.t 6, .t 29], none⟩,
          ⟨some 7, .pur .mov, [.k (.i (4))], none⟩]) <|
        .ret) (.skip)))) <|
  .seq (.ops [
    ⟨some 30, .pur (.faddr 2), [.t 5], none⟩,
    ⟨some 31, .ld (some 5) 1 false, [.t 30], none⟩,
    ⟨some 32, .pur (.iaddr 3), [.t 31, .k (.i (1))], none⟩,
    ⟨some 33, .ld none 3 true, [.t 32], none⟩,
    ⟨none, .st (some 6) 3, [.t 6, .t 33], none⟩,
    ⟨some 7, .pur .mov, [.k (.i (0))], none⟩]) <|
  .ret
def f263 : AFunc := ⟨34, f263b, [.cell 6 3 true, .tmp 7]⟩
/- 264 sluiceway/mech.apart -/
def f264b : ACode :=
  .seq (.ops [
    ⟨some 4, .pur .mov, [.k (.i (0))], none⟩]) <|
  .seq (.seq (.ops [
    ⟨some 5, .pur .mov, [.t 0], none⟩,
    ⟨some 6, .pur .mov, [.t 1], none⟩,
    ⟨some 7, .pur (.bin .lss), [.t 5, .t 6], none⟩]) <|
  .cond (.t 7) (.ops [
      ⟨some 8, .pur .mov, [.t 1], none⟩,
      ⟨some 9, .pur .mov, [.t 0], none⟩,
      ⟨some 0, .pur .mov, [.t 8], none⟩,
      ⟨some 1, .pur .mov, [.t 9], none⟩]) (.skip)) <|
  .seq (.seq (.ops [
    ⟨some 10, .pur .mov, [.t 1], none⟩,
    ⟨some 11, .pur (.bin .lss), [.t 10, .k (.i (0))], none⟩,
    ⟨some 12, .pur .mov, [.t 11], none⟩,
    ⟨some 13, .pur .mov, [.t 0], some (12, true)⟩,
    ⟨some 14, .pur .mov, [.t 1], some (12, true)⟩,
    ⟨some 15, .pur (.bin .add), [.t 14, .k (.i (5))], some (12, true)⟩,
    ⟨some 16, .pur (.bin .add), [.t 15, .k (.i (1))], some (12, true)⟩,
    ⟨some 17, .pur (.bin .gtr), [.t 13, .t 16], some (12, true)⟩,
    ⟨some 18, .pur .pick, [.t 12, .t 17, .k (.b false)], none⟩,
    ⟨some 19, .pur .mov, [.t 18], none⟩,
    ⟨some 20, .pur .mov, [.t 0], some (19, false)⟩,
    ⟨some 21, .pur .mov, [.t 1], some (19, false)⟩,
    ⟨some 22, .pur (.bin .sub), [.t 20, .t 21], some (19, false)⟩,
    ⟨some 23, .pur (.bin .gtr), [.t 22, .k (.i (5))], some (19, false)⟩,
    ⟨some 24, .pur .pick, [.t 19, .k (.b true), .t 23], none⟩]) <|
  .cond (.t 24) (.seq (.ops [
      ⟨some 4, .pur .mov, [.k (.i (6))], none⟩]) <|
    .ret) (.skip)) <|
  .seq (.ops [
    ⟨some 25, .pur .mov, [.t 0], none⟩,
    ⟨some 26, .pur .mov, [.t 1], none⟩,
    ⟨some 27, .pur (.bin .sub), [.t 25, .t 26], none⟩,
    ⟨some 4, .pur .mov, [.t 27], none⟩]) <|
  .ret
def f264 : AFunc := ⟨28, f264b, [.tmp 4]⟩
/- 269 sluiceway/mech.masked -/
def f269b : ACode :=
  .seq (.ops [
    ⟨some 2, .box .reg, [.t 0], none⟩,
    ⟨some 3, .box .reg, [.t 1], none⟩,
    ⟨some 4, .alloc .reg [.i (0), .s ⟨#[]⟩, .lst 0 true []], [], none⟩]) <|
  .seq (.ops [
    ⟨some 5, .ld (some 2) 3 true, [.t 2], none⟩,
    ⟨some 6, .call 360, [.t 5], none⟩,
    ⟨some 7, .ld (some 3) 3 true, [.t 3], none⟩,
    ⟨some 8, .call 363, [.t 7], none⟩,
    ⟨some 9, .call 125, [.t 6, .t 8], none⟩,
    ⟨none, .st (some 4) 3, [.t 4, .t 9], none⟩]) <|
  .ret
def f269 : AFunc := ⟨10, f269b, [.cell 4 3 true]⟩
/- 270 sluiceway/mech.exponent -/
def f270b : ACode :=
  .seq (.ops [
    ⟨some 2, .box .reg, [.t 0], none⟩,
    ⟨some 3, .box .reg, [.t 1], none⟩,
    ⟨some 4, .alloc .reg [.i (0), .s ⟨#[]⟩, .lst 0 true []], [], none⟩,
    ⟨some 5, .pur .mov, [.k (.i (0))], none⟩]) <|
  .seq (.seq (.ops [
    ⟨some 7, .pur (.faddr 0), [.t 2], none⟩,
    ⟨some 8, .ld (some 2) 1 false, [.t 7], none⟩,
    ⟨some 9, .pur (.bin .neq), [.t 8, .k (.i (10))], none⟩,
    ⟨some 10, .pur .mov, [.t 9], none⟩,
    ⟨some 11, .pur (.faddr 2), [.t 2], some (10, false)⟩,
    ⟨some 12, .ld (some 2) 1 false, [.t 11], some (10, false)⟩,
    ⟨some 13, .pur .lenL, [.t 12], some (10, false)⟩,
    ⟨some 14, .pur (.bin .neq), [.t 13, .k (.i (2))], some (10, false)⟩,
    ⟨some 15, .pur .pick, [.t 10, .k (.b true), .t 14], none⟩]) <|
  .cond (.t 15) (.seq (.ops [
      ⟨some 16, .pur (.build [.i (0), .s ⟨#[]⟩, .lst 0 true []] []), [], none⟩,
      ⟨none, .st (some 4) 3, [.t 4, .t 16], none⟩,
      ⟨some 5, .pur .mov, [.k (.i (2))], none⟩]) <|
    .ret) (.skip)) <|
  .seq (.ops [
    ⟨some 17, .pur (.faddr 2), [.t 2], none⟩,
    ⟨some 18, .ld (some 2) 1 false, [.t 17], none⟩,
    ⟨some 19, .pur (.iaddr 3), [.t 18, .k (.i (0))], none⟩,
    ⟨some 20, .ld none 3 true, [.t 19], none⟩,
    ⟨some 6, .alloc .reg [.i (0), .s ⟨#[]⟩, .lst 0 true []], [], none⟩,
    ⟨none, .st (some 6) 3, [.t 6, .t 20], none⟩]) <|
  .seq (.block 0 (.seq (.ops [
      ⟨some 22, .pur (.faddr 0), [.t 6], none⟩,
      ⟨some 23, .ld (some 6) 1 false, [.t 22], none⟩,
      ⟨some 24, .pur (.bin .neq), [.t 23, .k (.i (8))], none⟩,
      ⟨some 25, .pur .mov, [.t 24], none⟩,
      ⟨some 26, .pur (.faddr 2), [.t 6], some (25, false)⟩,
      ⟨some 27, .ld (some 6) 1 false, [.t 26], some (25, false)⟩,
      ⟨some 28, .pur .lenL, [.t 27], some (25, false)⟩,
      ⟨some 29, .pur (.bin .neq), [.t 28, .k (.i (1))], some (25, false)⟩,
      ⟨some 30, .pur .pick, [.t 25, .k (.b true), .t 29], none⟩,
      ⟨some 21, .pur .mov, [.t 30], none⟩]) <|
    .cond (.t 21) (.seq (.ops [
        ⟨some 31, .pur (.build [.i (0), .s ⟨#[]⟩, .lst 0 true []] []), [], none⟩,
        ⟨none, .st (some 4) 3, [.t 4, .t 31], none⟩,
        ⟨some 5, .pur .mov, [.k (.i (2))], none⟩]) <|
      .ret) (.seq (.ops [
        ⟨some 33, .pur (.faddr 2), [.t 2], none⟩,
        ⟨some 34, .ld (some 2) 1 false, [.t 33], none⟩,
        ⟨some 35, .pur (.iaddr 3), [.t 34, .k (.i (1))], none⟩,
        ⟨some 36, .ld none 3 true, [.t 35], none⟩,
        ⟨some 37, .ld (some 3) 3 true, [.t 3], none⟩,
        ⟨some 38, .call 363, [.t 37], none⟩,
        ⟨some 39, .call 118, [.t 36, .t 38], none⟩,
        ⟨some 40, .pur (.un .not), [.t 39], none⟩,
        ⟨some 32, .pur .mov, [.t 40], none⟩]) <|
      .cond (.t 32) (.seq (.ops [
          ⟨some 41, .pur (.build [.i (0), .s ⟨#[]⟩, .lst 0 true []] []), [], none⟩,
          ⟨none, .st (some 4) 3, [.t 4, .t 41], none⟩,
          ⟨some 5, .pur .mov, [.k (.i (6))], none⟩]) <|
        .ret) (.skip)))) <|
  .seq (.ops [
    ⟨some 42, .pur (.faddr 2), [.t 6], none⟩,
    ⟨some 43, .ld (some 6) 1 false, [.t 42], none⟩,
    ⟨some 44, .pur (.iaddr 3), [.t 43, .k (.i (0))], none⟩,
    ⟨some 45, .ld none 3 true, [.t 44], none⟩,
    ⟨none, .st (some 4) 3, [.t 4, .t 45], none⟩,
    ⟨some 5, .pur .mov, [.k (.i (0))], none⟩]) <|
  .ret
def f270 : AFunc := ⟨46, f270b, [.cell 4 3 true, .tmp 5]⟩
/- 271 (sluiceway/mech.exchange).factor -/
def f271b : ACode :=
  .seq (.ops [
    ⟨some 1, .box .reg, [.t 0], none⟩,
    ⟨some 2, .alloc .reg [.i (0), .s ⟨#[]⟩, .lst 0 true []], [], none⟩]) <|
  .seq (.ops [
    ⟨some 3, .ld (some 1) 18 true, [.t 1], none⟩,
    ⟨some 4, .call 272, [.t 3, .k (.i (1))], none⟩,
    ⟨some 5, .call 62, [.k (.s ⟨#[102, 97, 99, 116, 111, 114]⟩), .k (.lst 0 true [])], none⟩,
    ⟨some 6, .call 261, [.t 4, .k (.i (60)), .t 5], none⟩,
    ⟨none, .st (some 2) 3, [.t 2, .t 6], none⟩]) <|
  .ret
def f271 : AFunc := ⟨7, f271b, [.cell 2 3 true]⟩
/- 272 (sluiceway/mech.exchange).key -/
def f272b : ACode :=
  .seq (.ops [
    ⟨some 2, .box .reg, [.t 0], none⟩,
    ⟨some 4, .alloc .reg [.i (0), .s ⟨#[]⟩, .lst 0 true []], [], none⟩]) <|
  .seq (.ops [
    ⟨some 5, .pur (.faddr 0), [.t 2], none⟩,
    ⟨some 6, .ld (some 2) 3 true, [.t 5], none⟩,
    ⟨some 7, .pur (.faddr 3), [.t 2], none⟩,
    ⟨some 8, .ld (some 2) 3 true, [.t 7], none⟩,
    ⟨some 9, .call 127, [.t 6, .t 8], none⟩,
    ⟨some 10, .pur (.faddr 6), [.t 2], none⟩,
    ⟨some 11, .ld (some 2) 3 true, [.t 10], none⟩,
    ⟨some 12, .call 363, [.t 11], none⟩,
    ⟨some 13, .pur (.faddr 9), [.t 2], none⟩,
    ⟨some 14, .ld (some 2) 3 true, [.t 13], none⟩,
    ⟨some 15, .pur (.faddr 12), [.t 2], none⟩,
    ⟨some 16, .ld (some 2) 3 true, [.t 15], none⟩,
    ⟨some 17, .pur (.faddr 15), [.t 2], none⟩,
    ⟨some 18, .ld (some 2) 3 true, [.t 17], none⟩,
    ⟨some 19, .call 124, [.t 18], none⟩,
    ⟨some 20, .pur .mov, [.t 1], none⟩,
    ⟨some 21, .call 364, [.t 9, .t 12, .t 14, .t 16, .t 19, .t 20], none⟩,
    ⟨none, .st (some 4) 3, [.t 4, .t 21], none⟩]) <|
  .ret
def f272 : AFunc := ⟨22, f272b, [.cell 4 3 true]⟩
/- 273 sluiceway/window.Right -/
def f273b : ACode :=
  .seq (.ops [
    ⟨some 1, .box .reg, [.t 0], none⟩,
    ⟨some 2, .pur .mov, [.k (.b false)], none⟩]) <|
  .seq (.ops [
    ⟨some 3, .pur (.faddr 0), [.t 1], none⟩,
    ⟨some 4, .ld (some 1) 1 false, [.t 3], none⟩,
    ⟨some 5, .call 365, [.t 4, .k (.i (0)), .k (.i (1099511627776))], none⟩,
    ⟨some 6, .pur .mov, [.t 5], none⟩,
    ⟨some 7, .pur (.faddr 1), [.t 1], some (6, true)⟩,
    ⟨some 8, .ld (some 1) 1 false, [.t 7], some (6, true)⟩,
    ⟨some 9, .call 365, [.t 8, .k (.i (0)), .k (.i (20))], some (6, true)⟩,
    ⟨some 10, .pur .pick, [.t 6, .t 9, .k (.b false)], none⟩,
    ⟨some 11, .pur .mov, [.t 10], none⟩,
    ⟨some 12, .pur (.faddr 2), [.t 1], some (11, true)⟩,
    ⟨some 13, .ld (some 1) 1 false, [.t 12], some (11, true)⟩,
    ⟨some 14, .call 365, [.t 13, .k (.i (0)), .k (.i (50))], some (11, true)⟩,
    ⟨some 15, .pur .pick, [.t 11, .t 14, .k (.b false)], none⟩,
    ⟨some 16, .pur .mov, [.t 15], none⟩,
    ⟨some 17, .pur (.faddr 3), [.t 1], some (16, true)⟩,
    ⟨some 18, .ld (some 1) 1 false, [.t 17], some (16, true)⟩,
    ⟨some 19, .call 365, [.t 18, .k (.i (0)), .k (.i (1099511627976))], some (16, true)⟩,
    ⟨some 20, .pur .pick, [.t 16, .t 19, .k (.b false)], none⟩,
    ⟨some 21, .pur .mov, [.t 20], none⟩,
    ⟨some 22, .pur (.faddr 4), [.t 1], some (21, true)⟩,
    ⟨some 23, .ld (some 1) 1 false, [.t 22], some (21, true)⟩,
    ⟨some 24, .pur (.bin .geq), [.t 23, .k (.i (0))], some (21, true)⟩,
    ⟨some 25, .pur .pick, [.t 21, .t 24, .k (.b false)], none⟩,
    ⟨some 26, .pur .mov, [.t 25], none⟩,
    ⟨some 27, .pur (.faddr 5), [.t 1], some (26, true)⟩,
    ⟨some 28, .ld (some 1) 1 false, [.t 27], some (26, true)⟩,
    ⟨some 29, .call 365, [.t 28, .k (.i (1)), .k (.i (100))], some (26, true)⟩,
    ⟨some 30, .pur .pick, [.t 26, .t 29, .k (.b false)], none⟩,
    ⟨some 2, .pur .mov, [.t 30], none⟩]) <|
  .ret
def f273 : AFunc := ⟨31, f273b, [.tmp 2]⟩
/- 275 slices.DeleteFunc[[]int,int] -/
def f275_l0 : ACode :=
  .seq (.seq (.ops [
    ⟨some 16, .pur .mov, [.t 6], none⟩,
    ⟨some 17, .pur .mov, [.t 0], none⟩,
    ⟨some 18, .pur .lenL, [.t 17], none⟩,
    ⟨some 19, .pur (.bin .lss), [.t 16, .t 18], none⟩]) <|
  .cond (.t 19) (.skip) (.exit 0)) <|
  .seq (.block 1 (.seq (.ops [
      ⟨some 22, .pur .mov, [.t 0], none⟩,
      ⟨some 23, .pur .mov, [.t 6], none⟩,
      ⟨some 24, .pur (.iaddr 1), [.t 22, .t 23], none⟩,
      ⟨some 25, .ld none 1 false, [.t 24], none⟩,
      ⟨some 7, .pur .mov, [.t 25], none⟩]) <|
    .seq (.ops [
      ⟨some 26, .pur .mov, [.t 1], none⟩,
      ⟨some 27, .pur .mov, [.t 7], none⟩,
      ⟨some 28, .callv, [.t 26, .t 27], none⟩,
      ⟨some 29, .pur (.un .not), [.t 28], none⟩]) <|
    .cond (.t 29) (.seq (.ops [
        ⟨some 30, .pur .mov, [.t 0], none⟩,
        ⟨some 31, .pur .mov, [.t 5], none⟩,
        ⟨some 32, .pur .mov, [.t 7], none⟩,
        ⟨some 33, .pur (.iaddr 1), [.t 30, .t 31], none⟩,
        ⟨none, .st none 1, [.t 33, .t 32], none⟩]) <|
      .ops [
        ⟨some 34, .pur .mov, [.t 5], none⟩,
        ⟨some 35, .pur (.bin .add), [.t 34, .k (.i (1))], none⟩,
        ⟨some 5, .pur .mov, [.t 35], none⟩]) (.skip))) <|
  .ops [
    ⟨some 20, .pur .mov, [.t 6], none⟩,
    ⟨some 21, .pur (.bin .add), [.t 20, .k (.i (1))], none⟩,
    ⟨some 6, .pur .mov, [.t 21], none⟩]
def f275b : ACode :=
  .seq (.ops [
    ⟨some 4, .pur .mov, [.k (.lst 0 true [])], none⟩]) <|
  .seq (.ops [
    ⟨some 8, .pur .mov, [.t 0], none⟩,
    ⟨some 9, .pur .mov, [.t 1], none⟩,
    ⟨some 10, .call 367, [.t 8, .t 9], none⟩,
    ⟨some 5, .pur .mov, [.t 10], none⟩]) <|
  .seq (.seq (.ops [
    ⟨some 11, .pur .mov, [.t 5], none⟩,
    ⟨some 12, .pur (.bin .eql), [.t 11, .k (.i (-1))], none⟩]) <|
  .cond (.t 12) (.seq (.ops [
      ⟨some 13, .pur .mov, [.t 0], none⟩,
      ⟨some 4, .pur .mov, [.t 13], none⟩]) <|
    .ret) (.skip)) <|
  .seq (.seq (.ops [
    ⟨some 14, .pur .mov, [.t 5], none⟩,
    ⟨some 15, .pur (.bin .add), [.t 14, .k (.i (1))], none⟩,
    ⟨some 6, .pur .mov, [.t 15], none⟩]) <|
  .block 0 (.loop [7, 16, 17, 18, 19, 20, 21, 22, 23, 24, 25, 26, 27, 28, 29, 30, 31, 32, 33, 34, 35] [] f275_l0)) <|
  .seq (.ops [
    ⟨some 36, .pur .mov, [.t 0], none⟩,
    ⟨some 37, .pur .mov, [.t 5], none⟩,
    ⟨some 38, .pur (.sliceL 1 true false false), [.t 36, .t 37], none⟩,
    ⟨none, .clearS 1 [.i (0)], [.t 38], none⟩]) <|
  .seq (.ops [
    ⟨some 39, .pur .mov, [.t 0], none⟩,
    ⟨some 40, .pur .mov, [.t 5], none⟩,
    ⟨some 41, .pur (.sliceL 1 false true false), [.t 39, .t 40], none⟩,
    ⟨some 4, .pur .mov, [.t 41], none⟩]) <|
  .ret
def f275 : AFunc := ⟨42, f275b, [.tmp 4]⟩
/- 276 slices.Compact[[]int,int] -/
def f276_l0 : ACode :=
  .seq (.seq (.ops [
    ⟨some 29, .pur .mov, [.t 5], none⟩,
    ⟨some 30, .pur .mov, [.t 4], none⟩,
    ⟨some 31, .pur .lenL, [.t 30], none⟩,
    ⟨some 32, .pur (.bin .lss), [.t 29, .t 31], none⟩]) <|
  .cond (.t 32) (.skip) (.exit 2)) <|
  .seq (.block 3 (.seq (.ops [
      ⟨some 35, .pur .mov, [.t 4], none⟩,
      ⟨some 36, .pur .mov, [.t 5], none⟩,
      ⟨some 37, .pur (.iaddr 1), [.t 35, .t 36], none⟩,
      ⟨some 38, .ld none 1 false, [.t 37], none⟩,
      ⟨some 39, .pur .mov, [.t 4], none⟩,
      ⟨some 40, .pur .mov, [.t 5], none⟩,
      ⟨some 41, .pur (.bin .sub), [.t 40, .k (.i (1))], none⟩,
      ⟨some 42, .pur (.iaddr 1), [.t 39, .t 41], none⟩,
      ⟨some 43, .ld none 1 false, [.t 42], none⟩,
      ⟨some 44, .pur (.bin .neq), [.t 38, .t 43], none⟩]) <|
    .cond (.t 44) (.seq (.ops [
        ⟨some 45, .pur .mov, [.t 0], none⟩,
        ⟨some 46, .pur .mov, [.t 3], none⟩,
        ⟨some 47, .pur .mov, [.t 4], none⟩,
        ⟨some 48, .pur .mov, [.t 5], none⟩,
        ⟨some 49, .pur (.iaddr 1), [.t 47, .t 48], none⟩,
        ⟨some 50, .ld none 1 false, [.t 49], none⟩,
        ⟨some 51, .pur (.iaddr 1), [.t 45, .t 46], none⟩,
        ⟨none, .st none 1, [.t 51, .t 50], none⟩]) <|
      .ops [
        ⟨some 52, .pur .mov, [.t 3], none⟩,
        ⟨some 53, .pur (.bin .add), [.t 52, .k (.i (1))], none⟩,
        ⟨some 3, .pur .mov, [.t 53], none⟩]) (.skip))) <|
  .ops [
    ⟨some 33, .pur .mov, [.t 5], none⟩,
    ⟨some 34, .pur (.bin .add), [.t 33, .k (.i (1))], none⟩,
    ⟨some 5, .pur .mov, [.t 34], none⟩]

def f276_l1 : ACode :=
  .seq (.seq (.ops [
    ⟨some 10, .pur .mov, [.t 3], none⟩,
    ⟨some 11, .pur .mov, [.t 0], none⟩,
    ⟨some 12, .pur .lenL, [.t 11], none⟩,
    ⟨some 13, .pur (.bin .lss), [.t 10, .t 12], none⟩]) <|
  .cond (.t 13) (.skip) (.exit 0)) <|
  .seq (.block 1 (.seq (.ops [
      ⟨some 16, .pur .mov, [.t 0], none⟩,
      ⟨some 17, .pur .mov, [.t 3], none⟩,
      ⟨some 18, .pur (.iaddr 1), [.t 16, .t 17], none⟩,
      ⟨some 19, .ld none 1 false, [.t 18], none⟩,
      ⟨some 20, .pur .mov, [.t 0], none⟩,
      ⟨some 21, .pur .mov, [.t 3], none⟩,
      ⟨some 22, .pur (.bin .sub), [.t 21, .k (.i (1))], none⟩,
      ⟨some 23, .pur (.iaddr 1), [.t 20, .t 22], none⟩,
      ⟨some 24, .ld none 1 false, [.t 23], none⟩,
      ⟨some 25, .pur (.bin .eql), [.t 19, .t 24], none⟩]) <|
    .cond (.t 25) (.seq (.ops [
        ⟨some 26, .pur .mov, [.t 0], none⟩,
        ⟨some 27, .pur .mov, [.t 3], none⟩,
        ⟨some 28, .pur (.sliceL 1 true false false), [.t 26, .t 27], none⟩,
        ⟨some 4, .pur .mov, [.t 28], none⟩]) <|
      .seq (.seq (.ops [
        ⟨some 5, .pur .mov, [.k (.i (1))], none⟩]) <|
      .block 2 (.loop [29, 30, 31, 32, 33, 34, 35, 36, 37, 38, 39, 40, 41, 42, 43, 44, 45, 46, 47, 48, 49, 50, 51, 52, 53] [] f276_l0)) <|
      .seq (.ops [
        ⟨some 54, .pur .mov, [.t 0], none⟩,
        ⟨some 55, .pur .mov, [.t 3], none⟩,
        ⟨some 56, .pur (.sliceL 1 true false false), [.t 54, .t 55], none⟩,
        ⟨none, .clearS 1 [.i (0)], [.t 56], none⟩]) <|
      .seq (.ops [
        ⟨some 57, .pur .mov, [.t 0], none⟩,
        ⟨some 58, .pur .mov, [.t 3], none⟩,
        ⟨some 59, .pur (.sliceL 1 false true false), [.t 57, .t 58], none⟩,
        ⟨some 2, .pur .mov, [.t 59], none⟩]) <|
      .ret) (.skip))) <|
  .ops [
    ⟨some 14, .pur .mov, [.t 3], none⟩,
    ⟨some 15, .pur (.bin .add), [.t 14, .k (.i (1))], none⟩,
    ⟨some 3, .pur .mov, [.t 15], none⟩]
def f276b : ACode :=
  .seq (.ops [
    ⟨some 2, .pur .mov, [.k (.lst 0 true [])], none⟩]) <|
  .seq (.seq (.ops [
    ⟨some 6, .pur .mov, [.t 0], none⟩,
    ⟨some 7, .pur .lenL, [.t 6], none⟩,
    ⟨some 8, .pur (.bin .lss), [.t 7, .k (.i (2))], none⟩]) <|
  .cond (.t 8) (.seq (.ops [
      ⟨some 9, .pur .mov, [.t 0], none⟩,
      ⟨some 2, .pur .mov, [.t 9], none⟩]) <|
    .ret) (.skip)) <|
  .seq (.seq (.ops [
    ⟨some 3, .pur .mov, [.k (.i (1))], none⟩]) <|
  .block 0 (.loop [2, 4, 5, 10, 11, 12, 13, 14, 15, 16, 17, 18, 19, 20, 21, 22, 23, 24, 25, 26, 27, 28, 29, 30, 31, 32, 33, 34, 35, 36, 37, 38, 39, 40, 41, 42, 43, 44, 45, 46, 47, 48, 49, 50, 51, 52, 53, 54, 55, 56, 57, 58, 59] [] f276_l1)) <|
  .seq (.ops [
    ⟨some 60, .pur .mov, [.t 0], none⟩,
    ⟨some 2, .pur .mov, [.t 60], none⟩]) <|
  .ret
def f276 : AFunc := ⟨61, f276b, [.tmp 2]⟩
/- 277 sluiceway/mech.HitsOtp$1 -/
def f277b : ACode :=
  .seq (.ops [
    ⟨some 4, .pur .mov, [.k (.b false)], none⟩]) <|
  .seq (.ops [
    ⟨some 5, .ld none 1 false, [.t 1], none⟩,
    ⟨some 6, .pur (.iaddr 3), [.t 5, .k (.i (1))], none⟩,
    ⟨some 7, .ld none 3 true, [.t 6], none⟩,
    ⟨some 8, .ld none 3 true, [.t 2], none⟩,
    ⟨some 9, .pur .mov, [.t 0], none⟩,
    ⟨some 10, .call 278, [.t 8, .t 9], none⟩,
    ⟨some 11, .call 118, [.t 7, .t 10], none⟩,
    ⟨some 12, .pur (.un .not), [.t 11], none⟩,
    ⟨some 4, .pur .mov, [.t 12], none⟩]) <|
  .ret
def f277 : AFunc := ⟨13, f277b, [.tmp 4]⟩
/- 278 sluiceway/keys.Otp -/
def f278b : ACode :=
  .seq (.ops [
    ⟨some 2, .box .reg, [.t 0], none⟩,
    ⟨some 4, .alloc .reg [.i (0), .s ⟨#[]⟩, .lst 0 true []], [], none⟩]) <|
  .seq (.ops [
    ⟨some 5, .ld (some 2) 3 true, [.t 2], none⟩,
    ⟨some 6, .pur .mov, [.t 1], none⟩,
    ⟨some 7, .call 368, [.t 5, .k (.s ⟨#[111, 116, 112]⟩), .t 6], none⟩,
    ⟨none, .st (some 4) 3, [.t 4, .t 7], none⟩]) <|
  .ret
def f278 : AFunc := ⟨8, f278b, [.cell 4 3 true]⟩
/- 304 slices.Grow[[]sluiceway/api.Term,sluiceway/api.Term] -/
def f304b : ACode :=
  .seq (.ops [
    ⟨some 4, .pur .mov, [.k (.lst 0 true [])], none⟩]) <|
  .seq (.seq (.ops [
    ⟨some 5, .pur .mov, [.t 1], none⟩,
    ⟨some 6, .pur (.bin .lss), [.t 5, .k (.i (0))], none⟩]) <|
  .cond (.t 6) (.ops [
      ⟨some 7, .bad, [], none⟩,
      ⟨none, .bad, [], none⟩]) (.skip)) <|
  .seq (.seq (.ops [
    ⟨some 8, .pur .mov, [.t 1], none⟩,
    ⟨some 9, .pur .mov, [.t 0], none⟩,
    ⟨some 10, .pur .cap, [.t 9], none⟩,
    ⟨some 11, .pur .mov, [.t 0], none⟩,
    ⟨some 12, .pur .lenL, [.t 11], none⟩,
    ⟨some 13, .pur (.bin .sub), [.t 10, .t 12], none⟩,
    ⟨some 14, .pur (.bin .sub), [.t 8, .t 13], none⟩,
    ⟨some 1, .pur .mov, [.t 14], none⟩]) <|
  .seq (.ops [
    ⟨some 15, .pur .mov, [.t 1], none⟩,
    ⟨some 16, .pur (.bin .gtr), [.t 15, .k (.i (0))], none⟩]) <|
  .cond (.t 16) (.ops [
      ⟨some 17, .pur .mov, [.t 0], none⟩,
      ⟨some 18, .pur .mov, [.t 0], none⟩,
      ⟨some 19, .pur .cap, [.t 18], none⟩,
      ⟨some 20, .pur (.sliceL 3 false true false), [.t 17, .t 19], none⟩,
      ⟨some 21, .pur .mov, [.t 1], none⟩,
      ⟨some 22, .appendZ 3 48 [.i (0), .s ⟨#[]⟩, .lst 0 true []], [.t 20, .t 21], none⟩,
      ⟨some 23, .pur .mov, [.t 0], none⟩,
      ⟨some 24, .pur .lenL, [.t 23], none⟩,
      ⟨some 25, .pur (.sliceL 3 false true false), [.t 22, .t 24], none⟩,
      ⟨some 0, .pur .mov, [.t 25], none⟩]) (.skip)) <|
  .seq (.ops [
    ⟨some 26, .pur .mov, [.t 0], none⟩,
    ⟨some 4, .pur .mov, [.t 26], none⟩]) <|
  .ret
def f304 : AFunc := ⟨27, f304b, [.tmp 4]⟩
/- 306 internal/stringslite.CutPrefix -/
def f306b : ACode :=
  .seq (.ops [
    ⟨some 4, .pur .mov, [.k (.s ⟨#[]⟩)], none⟩,
    ⟨some 5, .pur .mov, [.k (.b false)], none⟩]) <|
  .seq (.seq (.ops [
    ⟨some 6, .pur .mov, [.t 0], none⟩,
    ⟨some 7, .pur .mov, [.t 1], none⟩,
    ⟨some 8, .call 398, [.t 6, .t 7], none⟩,
    ⟨some 9, .pur (.un .not), [.t 8], none⟩]) <|
  .cond (.t 9) (.seq (.ops [
      ⟨some 10, .pur .mov, [.t 0], none⟩,
      ⟨some 4, .pur .mov, [.t 10], none⟩,
      ⟨some 5, .pur .mov, [.k (.b false)], none⟩]) <|
    .ret) (.skip)) <|
  .seq (.ops [
    ⟨some 11, .pur .mov, [.t 0], none⟩,
    ⟨some 12, .pur .mov, [.t 1], none⟩,
    ⟨some 13, .pur .lenS, [.t 12], none⟩,
    ⟨some 14, .pur (.sliceS true false), [.t 11, .t 13], none⟩,
    ⟨some 4, .pur .mov, [.t 14], none⟩,
    ⟨some 5, .pur .mov, [.k (.b true)], none⟩]) <|
  .ret
def f306 : AFunc := ⟨15, f306b, [.tmp 4, .tmp 5]⟩
/- 312 sluiceway/term.Kdf -/
def f312b : ACode :=
  .seq (.ops [
    ⟨some 2, .box .reg, [.t 0], none⟩,
    ⟨some 4, .alloc .reg [.i (0), .s ⟨#[]⟩, .lst 0 true []], [], none⟩]) <|
  .seq (.ops [
    ⟨some 5, .pur .mov, [.t 1], none⟩,
    ⟨some 6, .ld (some 2) 3 true, [.t 2], none⟩,
    ⟨some 7, .pur (.buildSl 3 1 [.i (0), .s ⟨#[]⟩, .lst 0 true []] [0]), [.t 6], none⟩,
    ⟨some 8, .call 228, [.k (.i (7)), .t 5, .t 7], none⟩,
    ⟨none, .st (some 4) 3, [.t 4, .t 8], none⟩]) <|
  .ret
def f312 : AFunc := ⟨9, f312b, [.cell 4 3 true]⟩
/- 319 sluiceway/term.known -/
def f319b : ACode :=
  .seq (.ops [
    ⟨some 1, .box .reg, [.t 0], none⟩,
    ⟨some 2, .pur .mov, [.k (.b false)], none⟩]) <|
  .seq (.ops [
    ⟨some 3, .pur (.faddr 0), [.t 1], none⟩,
    ⟨some 4, .ld (some 1) 1 false, [.t 3], none⟩,
    ⟨some 5, .pur (.bin .geq), [.t 4, .k (.i (1))], none⟩,
    ⟨some 6, .pur .mov, [.t 5], none⟩,
    ⟨some 7, .pur (.faddr 0), [.t 1], some (6, true)⟩,
    ⟨some 8, .ld (some 1) 1 false, [.t 7], some (6, true)⟩,
    ⟨some 9, .pur (.bin .leq), [.t 8, .k (.i (10))], some (6, true)⟩,
    ⟨some 10, .pur .pick, [.t 6, .t 9, .k (.b false)], none⟩,
    ⟨some 2, .pur .mov, [.t 10], none⟩]) <|
  .ret
def f319 : AFunc := ⟨11, f319b, [.tmp 2]⟩
/- 320 slices.ContainsFunc[[]sluiceway/api.Term,sluiceway/api.Term] -/
def f320b : ACode :=
  .seq (.ops [
    ⟨some 4, .pur .mov, [.k (.b false)], none⟩]) <|
  .seq (.ops [
    ⟨some 5, .pur .mov, [.t 0], none⟩,
    ⟨some 6, .pur .mov, [.t 1], none⟩,
    ⟨some 7, .call 408, [.t 5, .t 6], none⟩,
    ⟨some 8, .pur (.bin .geq), [.t 7, .k (.i (0))], none⟩,
    ⟨some 4, .pur .mov, [.t 8], none⟩]) <|
  .ret
def f320 : AFunc := ⟨9, f320b, [.tmp 4]⟩
/- 321 sluiceway/term.shape$1 -/
def f321b : ACode :=
  .seq (.ops [
    ⟨some 2, .box .reg, [.t 0], none⟩,
    ⟨some 3, .pur .mov, [.k (.b false)], none⟩]) <|
  .seq (.ops [
    ⟨some 4, .ld (some 2) 3 true, [.t 2], none⟩,
    ⟨some 5, .ld none 1 false, [.t 1], none⟩,
    ⟨some 6, .pur (.bin .sub), [.t 5, .k (.i (1))], none⟩,
    ⟨some 7, .call 221, [.t 4, .t 6], none⟩,
    ⟨some 8, .pur (.un .not), [.t 7], none⟩,
    ⟨some 3, .pur .mov, [.t 8], none⟩]) <|
  .ret
def f321 : AFunc := ⟨9, f321b, [.tmp 3]⟩
/- 322 sluiceway/term.ordered$1 -/
def f322b : ACode :=
  .seq (.ops [
    ⟨some 1, .box .reg, [.t 0], none⟩,
    ⟨some 2, .pur .mov, [.k (.b false)], none⟩]) <|
  .seq (.ops [
    ⟨some 3, .ld (some 1) 3 true, [.t 1], none⟩,
    ⟨some 4, .call 222, [.t 3], none⟩,
    ⟨some 5, .pur (.un .not), [.t 4], none⟩,
    ⟨some 2, .pur .mov, [.t 5], none⟩]) <|
  .ret
def f322 : AFunc := ⟨6, f322b, [.tmp 2]⟩
/- 325 sluiceway/deduce.ways -/
def f325b : ACode :=
  .seq (.ops [
    ⟨some 0, .pur .mov, [.k (.sc (.map none))], none⟩]) <|
  .seq (.ops [
    ⟨some 1, .pur .mov, [.k (.fn 412 [] [])], none⟩]) <|
  .seq (.ops [
    ⟨some 2, .pur .mov, [.k (.fn 413 [] [])], none⟩]) <|
  .seq (.ops [
    ⟨some 3, .pur .mov, [.k (.fn 414 [] [])], none⟩]) <|
  .seq (.ops [
    ⟨some 4, .pur .mov, [.k (.fn 415 [] [])], none⟩]) <|
  .seq (.ops [
    ⟨some 5, .mkmap, [], none⟩,
    ⟨some 6, .pur .mov, [.t 1], none⟩,
    ⟨some 7, .pur .mov, [.t 4], none⟩,
    ⟨some 8, .pur (.build [.sc .nilFunc, .sc .nilFunc] [(0, 1), (1, 1)]), [.t 6, .t 7], none⟩,
    ⟨none, .mapset false, [.t 5, .k (.i (3)), .t 8], none⟩,
    ⟨some 9, .pur .mov, [.t 2], none⟩,
    ⟨some 10, .pur .mov, [.t 3], none⟩,
    ⟨some 11, .pur (.build [.sc .nilFunc, .sc .nilFunc] [(0, 1), (1, 1)]), [.t 9, .t 10], none⟩,
    ⟨none, .mapset false, [.t 5, .k (.i (4)), .t 11], none⟩,
    ⟨some 12, .pur .mov, [.t 3], none⟩,
    ⟨some 13, .pur .mov, [.t 2], none⟩,
    ⟨some 14, .pur (.build [.sc .nilFunc, .sc .nilFunc] [(0, 1), (1, 1)]), [.t 12, .t 13], none⟩,
    ⟨none, .mapset false, [.t 5, .k (.i (10)), .t 14], none⟩,
    ⟨some 15, .pur .mov, [.t 5], none⟩,
    ⟨some 0, .pur .mov, [.t 15], none⟩]) <|
  .ret
def f325 : AFunc := ⟨16, f325b, [.tmp 0]⟩
/- 326 (*sluiceway/deduce.Known).all -/
def f326_l0 : ACode :=
  .seq (.ops [
    ⟨some 10, .pur (.bin .lss), [.t 9, .t 8], none⟩]) <|
  .seq (.cond (.t 10) (.skip) (.exit 0)) <|
  .seq (.block 1 (.seq (.ops [
      ⟨some 11, .pur (.iaddr 3), [.t 7, .t 9], none⟩,
      ⟨some 12, .ld none 3 true, [.t 11], none⟩,
      ⟨some 6, .alloc .reg [.i (0), .s ⟨#[]⟩, .lst 0 true []], [], none⟩,
      ⟨none, .st (some 6) 3, [.t 6, .t 12], none⟩]) <|
    .seq (.ops [
      ⟨some 13, .pur .mov, [.t 0], none⟩,
      ⟨some 14, .ld (some 6) 3 true, [.t 6], none⟩,
      ⟨some 15, .call 328, [.t 13, .t 14], none⟩,
      ⟨some 16, .pur (.un .not), [.t 15], none⟩]) <|
    .cond (.t 16) (.seq (.ops [
        ⟨some 4, .pur .mov, [.k (.b false)], none⟩]) <|
      .ret) (.skip))) <|
  .ops [
    ⟨some 17, .pur (.bin .add), [.t 9, .k (.i (1))], none⟩,
    ⟨some 9, .pur .mov, [.t 17], none⟩]
def f326b : ACode :=
  .seq (.ops [
    ⟨some 4, .pur .mov, [.k (.b false)], none⟩]) <|
  .seq (.seq (.ops [
    ⟨some 7, .pur .mov, [.t 1], none⟩,
    ⟨some 8, .pur .lenL, [.t 7], none⟩,
    ⟨some 9, .pur .mov, [.k (.i (0))], none⟩]) <|
  .block 0 (.loop [4, 6, 10, 11, 12, 13, 14, 15, 16, 17] [6] f326_l0)) <|
  .seq (.ops [
    ⟨some 4, .pur .mov, [.k (.b true)], none⟩]) <|
  .ret
def f326 : AFunc := ⟨18, f326b, [.tmp 4]⟩
/- 327 (*sluiceway/deduce.Known).add -/
def f327b : ACode :=
  .seq (.ops [
    ⟨some 3, .box .reg, [.t 1], none⟩]) <|
  .seq (.ops [
    ⟨some 5, .ld (some 3) 3 true, [.t 3], none⟩,
    ⟨some 6, .call 254, [.t 5], none⟩,
    ⟨none, .st (some 3) 3, [.t 3, .t 6], none⟩]) <|
  .seq (.ops [
    ⟨some 7, .ld (some 3) 3 true, [.t 3], none⟩,
    ⟨some 8, .call 121, [.t 7], none⟩,
    ⟨some 4, .pur .mov, [.t 8], none⟩]) <|
  .seq (.seq (.ops [
    ⟨some 9, .pur .mov, [.t 4], none⟩,
    ⟨some 10, .pur (.bin .eql), [.t 9, .k (.s ⟨#[]⟩)], none⟩,
    ⟨some 11, .pur .mov, [.t 10], none⟩,
    ⟨some 12, .pur .mov, [.t 0], some (11, false)⟩,
    ⟨some 13, .pur .nilchk, [.t 12], some (11, false)⟩,
    ⟨some 14, .pur (.faddr 1), [.t 13], some (11, false)⟩,
    ⟨some 15, .ld none 1 false, [.t 14], some (11, false)⟩,
    ⟨some 16, .pur .mov, [.t 4], some (11, false)⟩,
    ⟨some 17, .lookup true (.b false) false, [.t 15, .t 16], some (11, false)⟩,
    ⟨some 18, .pur .pick, [.t 11, .k (.b true), .t 17], none⟩]) <|
  .cond (.t 18) (.ret) (.skip)) <|
  .seq (.ops [
    ⟨some 19, .pur .mov, [.t 0], none⟩,
    ⟨some 20, .pur .nilchk, [.t 19], none⟩,
    ⟨some 21, .pur (.faddr 1), [.t 20], none⟩,
    ⟨some 22, .ld none 1 false, [.t 21], none⟩,
    ⟨some 23, .pur .mov, [.t 4], none⟩,
    ⟨none, .mapset true, [.t 22, .t 23, .k (.b true)], none⟩]) <|
  .seq (.opsC [
    ⟨some 24, .pur .mov, [.t 0], none⟩,
    ⟨some 25, .pur .nilchk, [.t 24], none⟩,
    ⟨some 26, .pur (.faddr 0), [.t 25], none⟩,
    ⟨some 27, .ld none 1 false, [.t 26], none⟩,
    ⟨some 28, .ld (some 3) 3 true, [.t 3], none⟩,
    ⟨some 29, .pur .lenL, [.t 27], none⟩,
    ⟨some 30, .pur (.buildSl 3 1 [.i (0), .s ⟨#[]⟩, .lst 0 true []] [0]), [.k (.agg [.i (0), .s ⟨#[]⟩, .lst 0 true []])], none⟩,
    ⟨some 31, .append 3 48, [.t 27, .t 30], none⟩,
    ⟨some 32, .pur (.iaddr 3), [.t 31, .t 29], none⟩,
    ⟨none, .st none 3, [.t 32, .t 28], none⟩,
    ⟨some 33, .pur .nilchk, [.t 24], none⟩,
    ⟨some 34, .pur (.faddr 0), [.t 33], none⟩,
    ⟨none, .st none 1, [.t 34, .t 31], none⟩] [(32, 34)]) <|
  .ops [
    ⟨some 35, .pur .mov, [.t 0], none⟩,
    ⟨some 36, .pur .nilchk, [.t 35], none⟩,
    ⟨some 37, .pur (.faddr 2), [.t 36], none⟩,
    ⟨some 38, .ld none 1 false, [.t 37], none⟩,
    ⟨none, .clearM, [.t 38], none⟩]
def f327 : AFunc := ⟨39, f327b, []⟩
/- 328 (*sluiceway/deduce.Known).makes -/
def f328b : ACode :=
  .seq (.ops [
    ⟨some 3, .box .reg, [.t 1], none⟩,
    ⟨some 4, .pur .mov, [.k (.b false)], none⟩]) <|
  .seq (.ops [
    ⟨some 11, .ld (some 3) 3 true, [.t 3], none⟩,
    ⟨some 12, .call 121, [.t 11], none⟩,
    ⟨some 5, .pur .mov, [.t 12], none⟩]) <|
  .seq (.seq (.ops [
    ⟨some 13, .pur .mov, [.t 5], none⟩,
    ⟨some 14, .pur (.bin .eql), [.t 13, .k (.s ⟨#[]⟩)], none⟩,
    ⟨some 15, .pur .mov, [.t 14], none⟩,
    ⟨some 16, .pur .mov, [.t 0], some (15, false)⟩,
    ⟨some 17, .pur .nilchk, [.t 16], some (15, false)⟩,
    ⟨some 18, .pur (.faddr 1), [.t 17], some (15, false)⟩,
    ⟨some 19, .ld none 1 false, [.t 18], some (15, false)⟩,
    ⟨some 20, .pur .mov, [.t 5], some (15, false)⟩,
    ⟨some 21, .lookup true (.b false) false, [.t 19, .t 20], some (15, false)⟩,
    ⟨some 22, .pur .pick, [.t 15, .k (.b true), .t 21], none⟩]) <|
  .cond (.t 22) (.seq (.ops [
      ⟨some 23, .pur .mov, [.t 5], none⟩,
      ⟨some 24, .pur (.bin .neq), [.t 23, .k (.s ⟨#[]⟩)], none⟩,
      ⟨some 4, .pur .mov, [.t 24], none⟩]) <|
    .ret) (.skip)) <|
  .seq (.seq (.ops [
    ⟨some 26, .pur .mov, [.t 0], none⟩,
    ⟨some 27, .pur .nilchk, [.t 26], none⟩,
    ⟨some 28, .pur (.faddr 2), [.t 27], none⟩,
    ⟨some 29, .ld none 1 false, [.t 28], none⟩,
    ⟨some 30, .pur .mov, [.t 5], none⟩,
    ⟨some 31, .lookup true (.b false) true, [.t 29, .t 30], none⟩,
    ⟨some 25, .pur .mov, [.t 31], none⟩,
    ⟨some 32, .pur (.extract 0), [.t 25], none⟩,
    ⟨some 33, .pur (.extract 1), [.t 25], none⟩,
    ⟨some 6, .pur .mov, [.t 32], none⟩,
    ⟨some 7, .pur .mov, [.t 33], none⟩]) <|
  .seq (.ops [
    ⟨some 34, .pur .mov, [.t 7], none⟩]) <|
  .cond (.t 34) (.seq (.ops [
      ⟨some 35, .pur .mov, [.t 6], none⟩,
      ⟨some 4, .pur .mov, [.t 35], none⟩]) <|
    .ret) (.skip)) <|
  .seq (.ops [
    ⟨some 8, .pur .mov, [.k (.b false)], none⟩]) <|
  .seq (.seq (.ops [
    ⟨some 36, .pur (.faddr 0), [.t 3], none⟩,
    ⟨some 37, .ld (some 3) 1 false, [.t 36], none⟩]) <|
  .block 0 (.seq (.ops [
      ⟨some 43, .pur (.bin .eql), [.t 37, .k (.i (1))], none⟩,
      ⟨some 42, .pur .mov, [.t 43], none⟩]) <|
    .cond (.t 42) (.ops [
        ⟨some 8, .pur .mov, [.k (.b true)], none⟩]) (.seq (.ops [
        ⟨some 45, .pur (.bin .eql), [.t 37, .k (.i (2))], none⟩,
        ⟨some 44, .pur .mov, [.t 45], none⟩]) <|
      .cond (.t 44) (.skip) (.seq (.ops [
          ⟨some 47, .pur (.bin .eql), [.t 37, .k (.i (9))], none⟩,
          ⟨some 46, .pur .mov, [.t 47], none⟩]) <|
        .cond (.t 46) (.seq (.ops [
            ⟨some 48, .pur (.faddr 2), [.t 3], none⟩,
            ⟨some 49, .ld (some 3) 1 false, [.t 48], none⟩,
            ⟨some 50, .pur (.iaddr 3), [.t 49, .k (.i (0))], none⟩,
            ⟨some 51, .ld none 3 true, [.t 50], none⟩,
            ⟨some 52, .pur (.faddr 2), [.t 3], none⟩,
            ⟨some 53, .ld (some 3) 1 false, [.t 52], none⟩,
            ⟨some 54, .pur (.iaddr 3), [.t 53, .k (.i (1))], none⟩,
            ⟨some 55, .ld none 3 true, [.t 54], none⟩,
            ⟨some 9, .alloc .reg [.i (0), .s ⟨#[]⟩, .lst 0 true []], [], none⟩,
            ⟨some 10, .alloc .reg [.i (0), .s ⟨#[]⟩, .lst 0 true []], [], none⟩,
            ⟨none, .st (some 9) 3, [.t 9, .t 51], none⟩,
            ⟨none, .st (some 10) 3, [.t 10, .t 55], none⟩]) <|
          .ops [
            ⟨some 56, .pur .mov, [.t 0], none⟩,
            ⟨some 57, .ld (some 9) 3 true, [.t 9], none⟩,
            ⟨some 58, .ld (some 10) 3 true, [.t 10], none⟩,
            ⟨some 59, .call 360, [.t 58], none⟩,
            ⟨some 60, .pur (.buildSl 3 2 [.i (0), .s ⟨#[]⟩, .lst 0 true []] [0, 1]), [.t 57, .t 59], none⟩,
            ⟨some 61, .call 326, [.t 56, .t 60], none⟩,
            ⟨some 62, .pur .mov, [.t 61], none⟩,
            ⟨some 63, .pur .mov, [.t 0], some (62, false)⟩,
            ⟨some 64, .ld (some 10) 3 true, [.t 10], some (62, false)⟩,
            ⟨some 65, .ld (some 9) 3 true, [.t 9], some (62, false)⟩,
            ⟨some 66, .call 360, [.t 65], some (62, false)⟩,
            ⟨some 67, .pur (.buildSl 3 2 [.i (0), .s ⟨#[]⟩, .lst 0 true []] [0, 1]), [.t 64, .t 66], some (62, false)⟩,
            ⟨some 68, .call 326, [.t 63, .t 67], some (62, false)⟩,
            ⟨some 69, .pur .pick, [.t 62, .k (.b true), .t 68], none⟩,
            ⟨some 8, .pur .mov, [.t 69], none⟩]) (.ops [
            ⟨some 38, .pur .mov, [.t 0], none⟩,
            ⟨some 39, .pur (.faddr 2), [.t 3], none⟩,
            ⟨some 40, .ld (some 3) 1 false, [.t 39], none⟩,
            ⟨some 41, .call 326, [.t 38, .t 40], none⟩,
            ⟨some 8, .pur .mov, [.t 41], none⟩]))))) <|
  .seq (.ops [
    ⟨some 70, .pur .mov, [.t 0], none⟩,
    ⟨some 71, .pur .nilchk, [.t 70], none⟩,
    ⟨some 72, .pur (.faddr 2), [.t 71], none⟩,
    ⟨some 73, .ld none 1 false, [.t 72], none⟩,
    ⟨some 74, .pur .mov, [.t 5], none⟩,
    ⟨some 75, .pur .mov, [.t 8], none⟩,
    ⟨none, .mapset true, [.t 73, .t 74, .t 75], none⟩]) <|
  .seq (.ops [
    ⟨some 76, .pur .mov, [.t 8], none⟩,
    ⟨some 4, .pur .mov, [.t 76], none⟩]) <|
  .ret
def f328 : AFunc := ⟨77, f328b, [.tmp 4]⟩
/- 350 sluiceway/keys.Join -/
def f350b : ACode :=
  .seq (.ops [
    ⟨some 4, .box .reg, [.t 0], none⟩,
    ⟨some 5, .box .reg, [.t 1], none⟩,
    ⟨some 8, .alloc .reg [.i (0), .s ⟨#[]⟩, .lst 0 true []], [], none⟩]) <|
  .seq (.ops [
    ⟨some 9, .ld (some 4) 3 true, [.t 4], none⟩,
    ⟨some 10, .pur .mov, [.t 2], none⟩,
    ⟨some 11, .pur (.bin .add), [.k (.s ⟨#[106, 111, 105, 110, 32]⟩), .t 10], none⟩,
    ⟨some 12, .call 312, [.t 9, .t 11], none⟩,
    ⟨some 13, .ld (some 5) 3 true, [.t 5], none⟩,
    ⟨some 14, .pur .mov, [.t 3], none⟩,
    ⟨some 15, .pur (.bin .add), [.k (.s ⟨#[106, 111, 105, 110, 32]⟩), .t 14], none⟩,
    ⟨some 16, .call 312, [.t 13, .t 15], none⟩,
    ⟨some 17, .pur (.buildSl 3 2 [.i (0), .s ⟨#[]⟩, .lst 0 true []] [0, 1]), [.t 12, .t 16], none⟩,
    ⟨some 18, .call 126, [.t 17], none⟩,
    ⟨some 19, .call 124, [.t 18], none⟩,
    ⟨none, .st (some 8) 3, [.t 8, .t 19], none⟩]) <|
  .ret
def f350 : AFunc := ⟨20, f350b, [.cell 8 3 true]⟩
/- 354 sluiceway/keys.Use -/
def f354b : ACode :=
  .seq (.ops [
    ⟨some 2, .box .reg, [.t 0], none⟩,
    ⟨some 4, .alloc .reg [.i (0), .s ⟨#[]⟩, .lst 0 true []], [], none⟩]) <|
  .seq (.ops [
    ⟨some 5, .ld (some 2) 3 true, [.t 2], none⟩,
    ⟨some 6, .pur .mov, [.t 1], none⟩,
    ⟨some 7, .call 368, [.t 5, .k (.s ⟨#[117, 115, 101]⟩), .t 6], none⟩,
    ⟨none, .st (some 4) 3, [.t 4, .t 7], none⟩]) <|
  .ret
def f354 : AFunc := ⟨8, f354b, [.cell 4 3 true]⟩
/- 355 slices.Reverse[[]sluiceway/api.Term,sluiceway/api.Term] -/
def f355_l0 : ACode :=
  .seq (.seq (.ops [
    ⟨some 7, .pur .mov, [.t 2], none⟩,
    ⟨some 8, .pur .mov, [.t 3], none⟩,
    ⟨some 9, .pur (.bin .lss), [.t 7, .t 8], none⟩]) <|
  .cond (.t 9) (.skip) (.exit 0)) <|
  .seq (.block 1 (.ops [
      ⟨some 14, .pur .mov, [.t 0], none⟩,
      ⟨some 15, .pur .mov, [.t 2], none⟩,
      ⟨some 16, .pur .mov, [.t 0], none⟩,
      ⟨some 17, .pur .mov, [.t 3], none⟩,
      ⟨some 18, .pur .mov, [.t 0], none⟩,
      ⟨some 19, .pur .mov, [.t 3], none⟩,
      ⟨some 20, .pur (.iaddr 3), [.t 18, .t 19], none⟩,
      ⟨some 21, .ld none 3 true, [.t 20], none⟩,
      ⟨some 22, .pur .mov, [.t 0], none⟩,
      ⟨some 23, .pur .mov, [.t 2], none⟩,
      ⟨some 24, .pur (.iaddr 3), [.t 22, .t 23], none⟩,
      ⟨some 25, .ld none 3 true, [.t 24], none⟩,
      ⟨some 26, .pur (.iaddr 3), [.t 14, .t 15], none⟩,
      ⟨none, .st none 3, [.t 26, .t 21], none⟩,
      ⟨some 27, .pur (.iaddr 3), [.t 16, .t 17], none⟩,
      ⟨none, .st none 3, [.t 27, .t 25], none⟩])) <|
  .ops [
    ⟨some 10, .pur .mov, [.t 2], none⟩,
    ⟨some 11, .pur (.bin .add), [.t 10, .k (.i (1))], none⟩,
    ⟨some 12, .pur .mov, [.t 3], none⟩,
    ⟨some 13, .pur (.bin .sub), [.t 12, .k (.i (1))], none⟩,
    ⟨some 2, .pur .mov, [.t 11], none⟩,
    ⟨some 3, .pur .mov, [.t 13], none⟩]
def f355b : ACode :=
  .seq (.ops [
    ⟨some 4, .pur .mov, [.t 0], none⟩,
    ⟨some 5, .pur .lenL, [.t 4], none⟩,
    ⟨some 6, .pur (.bin .sub), [.t 5, .k (.i (1))], none⟩,
    ⟨some 2, .pur .mov, [.k (.i (0))], none⟩,
    ⟨some 3, .pur .mov, [.t 6], none⟩]) <|
  .block 0 (.loop [7, 8, 9, 10, 11, 12, 13, 14, 15, 16, 17, 18, 19, 20, 21, 22, 23, 24, 25, 26, 27] [] f355_l0)
def f355 : AFunc := ⟨28, f355b, []⟩
/- 356 (sluiceway/offline.views).tests$1 -/
def f356b : ACode :=
  .seq (.ops [
    ⟨some 2, .box .reg, [.t 0], none⟩,
    ⟨some 3, .pur .mov, [.k (.b false)], none⟩]) <|
  .seq (.ops [
    ⟨some 4, .pur (.faddr 2), [.t 1], none⟩,
    ⟨some 5, .ld none 1 false, [.t 4], none⟩,
    ⟨some 6, .ld (some 2) 3 true, [.t 2], none⟩,
    ⟨some 7, .call 121, [.t 6], none⟩,
    ⟨some 8, .lookup true (.b false) false, [.t 5, .t 7], none⟩,
    ⟨some 9, .pur .mov, [.t 8], none⟩,
    ⟨some 10, .ld none 3 true, [.t 1], some (9, true)⟩,
    ⟨some 11, .pur (.faddr 2), [.t 2], some (9, true)⟩,
    ⟨some 12, .ld (some 2) 1 false, [.t 11], some (9, true)⟩,
    ⟨some 13, .pur (.buildSl 1 1 [.lst 0 true []] [0]), [.t 12], some (9, true)⟩,
    ⟨some 14, .call 357, [.t 10, .t 13], some (9, true)⟩,
    ⟨some 15, .pur .pick, [.t 9, .t 14, .k (.b false)], none⟩,
    ⟨some 3, .pur .mov, [.t 15], none⟩]) <|
  .ret
def f356 : AFunc := ⟨16, f356b, [.tmp 3]⟩
/- 357 (sluiceway/offline.views).gained -/
def f357b : ACode :=
  .seq (.ops [
    ⟨some 2, .pur .ibox, [.t 0], none⟩,
    ⟨some 4, .pur .mov, [.k (.b false)], none⟩]) <|
  .seq (.ops [
    ⟨some 5, .alloc .heap [.sc .nilFunc], [], none⟩,
    ⟨none, .st none 1, [.t 5, .k (.fn 423 [] [])], none⟩]) <|
  .seq (.ops [
    ⟨some 8, .pur .mov, [.t 1], none⟩,
    ⟨some 9, .pur (.mkfn 426 0), [.t 5, .t 2], none⟩,
    ⟨some 10, .call 425, [.t 8, .t 9], none⟩,
    ⟨some 6, .pur .mov, [.t 10], none⟩]) <|
  .seq (.ops [
    ⟨some 11, .pur .mov, [.t 1], none⟩,
    ⟨some 12, .pur (.mkfn 427 0), [.t 5, .t 2], none⟩,
    ⟨some 13, .call 425, [.t 11, .t 12], none⟩,
    ⟨some 7, .pur .mov, [.t 13], none⟩]) <|
  .seq (.ops [
    ⟨some 14, .pur .mov, [.t 6], none⟩,
    ⟨some 15, .pur .mov, [.t 14], none⟩,
    ⟨some 16, .pur .mov, [.t 7], some (15, true)⟩,
    ⟨some 17, .pur (.un .not), [.t 16], some (15, true)⟩,
    ⟨some 18, .pur .pick, [.t 15, .t 17, .k (.b false)], none⟩,
    ⟨some 4, .pur .mov, [.t 18], none⟩]) <|
  .ret
def f357 : AFunc := ⟨19, f357b, [.tmp 4]⟩
/- 358 (sluiceway/offline.views).tests$2 -/
def f358b : ACode :=
  .seq (.ops [
    ⟨some 2, .box .reg, [.t 0], none⟩,
    ⟨some 3, .pur .mov, [.k (.b false)], none⟩]) <|
  .seq (.ops [
    ⟨some 4, .ld none 3 true, [.t 1], none⟩,
    ⟨some 5, .pur (.faddr 2), [.t 2], none⟩,
    ⟨some 6, .ld (some 2) 1 false, [.t 5], none⟩,
    ⟨some 7, .pur (.sliceL 3 false true false), [.t 6, .k (.i (1))], none⟩,
    ⟨some 8, .pur (.buildSl 1 1 [.lst 0 true []] [0]), [.t 7], none⟩,
    ⟨some 9, .call 357, [.t 4, .t 8], none⟩,
    ⟨some 3, .pur .mov, [.t 9], none⟩]) <|
  .ret
def f358 : AFunc := ⟨10, f358b, [.tmp 3]⟩
/- 359 (sluiceway/offline.views).tests$3 -/
def f359b : ACode :=
  .seq (.ops [
    ⟨some 2, .box .reg, [.t 0], none⟩,
    ⟨some 3, .pur .mov, [.k (.b false)], none⟩]) <|
  .seq (.ops [
    ⟨some 6, .pur (.faddr 2), [.t 2], none⟩,
    ⟨some 7, .ld (some 2) 1 false, [.t 6], none⟩,
    ⟨some 8, .pur (.iaddr 3), [.t 7, .k (.i (0))], none⟩,
    ⟨some 9, .ld none 3 true, [.t 8], none⟩,
    ⟨some 10, .pur (.faddr 2), [.t 2], none⟩,
    ⟨some 11, .ld (some 2) 1 false, [.t 10], none⟩,
    ⟨some 12, .pur (.iaddr 3), [.t 11, .k (.i (1))], none⟩,
    ⟨some 13, .ld none 3 true, [.t 12], none⟩,
    ⟨some 4, .alloc .reg [.i (0), .s ⟨#[]⟩, .lst 0 true []], [], none⟩,
    ⟨some 5, .alloc .reg [.i (0), .s ⟨#[]⟩, .lst 0 true []], [], none⟩,
    ⟨none, .st (some 4) 3, [.t 4, .t 9], none⟩,
    ⟨none, .st (some 5) 3, [.t 5, .t 13], none⟩]) <|
  .seq (.ops [
    ⟨some 14, .pur (.faddr 2), [.t 1], none⟩,
    ⟨some 15, .ld none 1 false, [.t 14], none⟩,
    ⟨some 16, .ld (some 2) 3 true, [.t 2], none⟩,
    ⟨some 17, .call 121, [.t 16], none⟩,
    ⟨some 18, .lookup true (.b false) false, [.t 15, .t 17], none⟩,
    ⟨some 19, .pur .mov, [.t 18], none⟩,
    ⟨some 20, .ld none 3 true, [.t 1], some (19, true)⟩,
    ⟨some 21, .ld (some 4) 3 true, [.t 4], some (19, true)⟩,
    ⟨some 22, .ld (some 5) 3 true, [.t 5], some (19, true)⟩,
    ⟨some 23, .call 360, [.t 22], some (19, true)⟩,
    ⟨some 24, .pur (.buildSl 3 2 [.i (0), .s ⟨#[]⟩, .lst 0 true []] [0, 1]), [.t 21, .t 23], some (19, true)⟩,
    ⟨some 25, .ld (some 5) 3 true, [.t 5], some (19, true)⟩,
    ⟨some 26, .ld (some 4) 3 true, [.t 4], some (19, true)⟩,
    ⟨some 27, .call 360, [.t 26], some (19, true)⟩,
    ⟨some 28, .pur (.buildSl 3 2 [.i (0), .s ⟨#[]⟩, .lst 0 true []] [0, 1]), [.t 25, .t 27], some (19, true)⟩,
    ⟨some 29, .pur (.buildSl 1 2 [.lst 0 true []] [0, 1]), [.t 24, .t 28], some (19, true)⟩,
    ⟨some 30, .call 357, [.t 20, .t 29], some (19, true)⟩,
    ⟨some 31, .pur .pick, [.t 19, .t 30, .k (.b false)], none⟩,
    ⟨some 3, .pur .mov, [.t 31], none⟩]) <|
  .ret
def f359 : AFunc := ⟨32, f359b, [.tmp 3]⟩
/- 360 sluiceway/term.Pub -/
def f360b : ACode :=
  .seq (.ops [
    ⟨some 1, .box .reg, [.t 0], none⟩,
    ⟨some 2, .alloc .reg [.i (0), .s ⟨#[]⟩, .lst 0 true []], [], none⟩]) <|
  .seq (.ops [
    ⟨some 3, .ld (some 1) 3 true, [.t 1], none⟩,
    ⟨some 4, .pur (.buildSl 3 1 [.i (0), .s ⟨#[]⟩, .lst 0 true []] [0]), [.t 3], none⟩,
    ⟨some 5, .call 228, [.k (.i (8)), .k (.s ⟨#[]⟩), .t 4], none⟩,
    ⟨none, .st (some 2) 3, [.t 2, .t 5], none⟩]) <|
  .ret
def f360 : AFunc := ⟨6, f360b, [.cell 2 3 true]⟩
/- 361 (sluiceway/offline.views).tests$4 -/
def f361b : ACode :=
  .seq (.ops [
    ⟨some 2, .box .reg, [.t 0], none⟩,
    ⟨some 3, .pur .mov, [.k (.b false)], none⟩]) <|
  .seq (.ops [
    ⟨some 4, .pur (.faddr 2), [.t 1], none⟩,
    ⟨some 5, .ld none 1 false, [.t 4], none⟩,
    ⟨some 6, .ld (some 2) 3 true, [.t 2], none⟩,
    ⟨some 7, .call 121, [.t 6], none⟩,
    ⟨some 8, .lookup true (.b false) false, [.t 5, .t 7], none⟩,
    ⟨some 9, .pur .mov, [.t 8], none⟩,
    ⟨some 10, .pur (.faddr 0), [.t 1], some (9, true)⟩,
    ⟨some 11, .ld none 1 false, [.t 10], some (9, true)⟩,
    ⟨some 12, .pur (.faddr 2), [.t 2], some (9, true)⟩,
    ⟨some 13, .ld (some 2) 1 false, [.t 12], some (9, true)⟩,
    ⟨some 14, .pur (.iaddr 3), [.t 13, .k (.i (0))], some (9, true)⟩,
    ⟨some 15, .ld none 3 true, [.t 14], some (9, true)⟩,
    ⟨some 16, .call 231, [.t 11, .t 15], some (9, true)⟩,
    ⟨some 17, .pur .pick, [.t 9, .t 16, .k (.b false)], none⟩,
    ⟨some 18, .pur .mov, [.t 17], none⟩,
    ⟨some 19, .ld none 3 true, [.t 1], some (18, true)⟩,
    ⟨some 20, .pur (.faddr 2), [.t 2], some (18, true)⟩,
    ⟨some 21, .ld (some 2) 1 false, [.t 20], some (18, true)⟩,
    ⟨some 22, .pur (.sliceL 3 true false false), [.t 21, .k (.i (1))], some (18, true)⟩,
    ⟨some 23, .pur (.buildSl 1 1 [.lst 0 true []] [0]), [.t 22], some (18, true)⟩,
    ⟨some 24, .call 357, [.t 19, .t 23], some (18, true)⟩,
    ⟨some 25, .pur .pick, [.t 18, .t 24, .k (.b false)], none⟩,
    ⟨some 3, .pur .mov, [.t 25], none⟩]) <|
  .ret
def f361 : AFunc := ⟨26, f361b, [.tmp 3]⟩
/- 363 sluiceway/keys.Word -/
def f363b : ACode :=
  .seq (.ops [
    ⟨some 1, .box .reg, [.t 0], none⟩,
    ⟨some 2, .alloc .reg [.i (0), .s ⟨#[]⟩, .lst 0 true []], [], none⟩]) <|
  .seq (.ops [
    ⟨some 3, .ld (some 1) 3 true, [.t 1], none⟩,
    ⟨some 4, .call 312, [.t 3, .k (.s ⟨#[119, 111, 114, 100]⟩)], none⟩,
    ⟨none, .st (some 2) 3, [.t 2, .t 4], none⟩]) <|
  .ret
def f363 : AFunc := ⟨5, f363b, [.cell 2 3 true]⟩
/- 364 sluiceway/keys.Second -/
def f364b : ACode :=
  .seq (.ops [
    ⟨some 6, .box .reg, [.t 0], none⟩,
    ⟨some 7, .box .reg, [.t 1], none⟩,
    ⟨some 8, .box .reg, [.t 2], none⟩,
    ⟨some 9, .box .reg, [.t 3], none⟩,
    ⟨some 10, .box .reg, [.t 4], none⟩,
    ⟨some 12, .alloc .reg [.i (0), .s ⟨#[]⟩, .lst 0 true []], [], none⟩]) <|
  .seq (.ops [
    ⟨some 13, .ld (some 6) 3 true, [.t 6], none⟩,
    ⟨some 14, .ld (some 7) 3 true, [.t 7], none⟩,
    ⟨some 15, .ld (some 8) 3 true, [.t 8], none⟩,
    ⟨some 16, .ld (some 9) 3 true, [.t 9], none⟩,
    ⟨some 17, .ld (some 10) 3 true, [.t 10], none⟩,
    ⟨some 18, .pur (.buildSl 3 5 [.i (0), .s ⟨#[]⟩, .lst 0 true []] [0, 1, 2, 3, 4]), [.t 13, .t 14, .t 15, .t 16, .t 17], none⟩,
    ⟨some 19, .call 126, [.t 18], none⟩,
    ⟨some 20, .call 124, [.t 19], none⟩,
    ⟨some 21, .pur .mov, [.t 5], none⟩,
    ⟨some 22, .call 354, [.t 20, .t 21], none⟩,
    ⟨none, .st (some 12) 3, [.t 12, .t 22], none⟩]) <|
  .ret
def f364 : AFunc := ⟨23, f364b, [.cell 12 3 true]⟩
/- 365 sluiceway/window.in[int] -/
def f365b : ACode :=
  .seq (.ops [
    ⟨some 6, .pur .mov, [.k (.b false)], none⟩]) <|
  .seq (.ops [
    ⟨some 7, .pur .mov, [.t 0], none⟩,
    ⟨some 8, .pur .mov, [.t 1], none⟩,
    ⟨some 9, .pur (.bin .geq), [.t 7, .t 8], none⟩,
    ⟨some 10, .pur .mov, [.t 9], none⟩,
    ⟨some 11, .pur .mov, [.t 0], some (10, true)⟩,
    ⟨some 12, .pur .mov, [.t 2], some (10, true)⟩,
    ⟨some 13, .pur (.bin .leq), [.t 11, .t 12], some (10, true)⟩,
    ⟨some 14, .pur .pick, [.t 10, .t 13, .k (.b false)], none⟩,
    ⟨some 6, .pur .mov, [.t 14], none⟩]) <|
  .ret
def f365 : AFunc := ⟨15, f365b, [.tmp 6]⟩
/- 367 slices.IndexFunc[[]int,int] -/
def f367_l0 : ACode :=
  .seq (.ops [
    ⟨some 9, .pur (.bin .lss), [.t 8, .t 7], none⟩]) <|
  .seq (.cond (.t 9) (.skip) (.exit 0)) <|
  .seq (.block 1 (.seq (.ops [
      ⟨some 10, .pur .mov, [.t 8], none⟩,
      ⟨some 5, .pur .mov, [.t 10], none⟩]) <|
    .seq (.ops [
      ⟨some 11, .pur .mov, [.t 1], none⟩,
      ⟨some 12, .pur .mov, [.t 0], none⟩,
      ⟨some 13, .pur .mov, [.t 5], none⟩,
      ⟨some 14, .pur (.iaddr 1), [.t 12, .t 13], none⟩,
      ⟨some 15, .ld none 1 false, [.t 14], none⟩,
      ⟨some 16, .callv, [.t 11, .t 15], none⟩]) <|
    .cond (.t 16) (.seq (.ops [
        ⟨some 17, .pur .mov, [.t 5], none⟩,
        ⟨some 4, .pur .mov, [.t 17], none⟩]) <|
      .ret) (.skip))) <|
  .ops [
    ⟨some 18, .pur (.bin .add), [.t 8, .k (.i (1))], none⟩,
    ⟨some 8, .pur .mov, [.t 18], none⟩]
def f367b : ACode :=
  .seq (.ops [
    ⟨some 4, .pur .mov, [.k (.i (0))], none⟩]) <|
  .seq (.seq (.ops [
    ⟨some 6, .pur .mov, [.t 0], none⟩,
    ⟨some 7, .pur .lenL, [.t 6], none⟩,
    ⟨some 8, .pur .mov, [.k (.i (0))], none⟩]) <|
  .block 0 (.loop [4, 5, 9, 10, 11, 12, 13, 14, 15, 16, 17, 18] [] f367_l0)) <|
  .seq (.ops [
    ⟨some 4, .pur .mov, [.k (.i (-1))], none⟩]) <|
  .ret
def f367 : AFunc := ⟨19, f367b, [.tmp 4]⟩
/- 368 sluiceway/keys.numbered -/
def f368b : ACode :=
  .seq (.ops [
    ⟨some 3, .box .reg, [.t 0], none⟩,
    ⟨some 6, .alloc .reg [.i (0), .s ⟨#[]⟩, .lst 0 true []], [], none⟩]) <|
  .seq (.ops [
    ⟨some 7, .ld (some 3) 3 true, [.t 3], none⟩,
    ⟨some 8, .pur .mov, [.t 1], none⟩,
    ⟨some 9, .pur (.bin .add), [.t 8, .k (.s ⟨#[32]⟩)], none⟩,
    ⟨some 10, .pur .mov, [.t 2], none⟩,
    ⟨some 11, .call 193, [.t 10], none⟩,
    ⟨some 12, .pur (.bin .add), [.t 9, .t 11], none⟩,
    ⟨some 13, .call 312, [.t 7, .t 12], none⟩,
    ⟨none, .st (some 6) 3, [.t 6, .t 13], none⟩]) <|
  .ret
def f368 : AFunc := ⟨14, f368b, [.cell 6 3 true]⟩
/- 398 internal/stringslite.HasPrefix -/
def f398b : ACode :=
  .seq (.ops [
    ⟨some 4, .pur .mov, [.k (.b false)], none⟩]) <|
  .seq (.ops [
    ⟨some 5, .pur .mov, [.t 0], none⟩,
    ⟨some 6, .pur .lenS, [.t 5], none⟩,
    ⟨some 7, .pur .mov, [.t 1], none⟩,
    ⟨some 8, .pur .lenS, [.t 7], none⟩,
    ⟨some 9, .pur (.bin .geq), [.t 6, .t 8], none⟩,
    ⟨some 10, .pur .mov, [.t 9], none⟩,
    ⟨some 11, .pur .mov, [.t 0], some (10, true)⟩,
    ⟨some 12, .pur .mov, [.t 1], some (10, true)⟩,
    ⟨some 13, .pur .lenS, [.t 12], some (10, true)⟩,
    ⟨some 14, .pur (.sliceS false true), [.t 11, .t 13], some (10, true)⟩,
    ⟨some 15, .pur .mov, [.t 1], some (10, true)⟩,
    ⟨some 16, .pur (.bin .eql), [.t 14, .t 15], some (10, true)⟩,
    ⟨some 17, .pur .pick, [.t 10, .t 16, .k (.b false)], none⟩,
    ⟨some 4, .pur .mov, [.t 17], none⟩]) <|
  .ret
def f398 : AFunc := ⟨18, f398b, [.tmp 4]⟩
/- 408 slices.IndexFunc[[]sluiceway/api.Term,sluiceway/api.Term] -/
def f408_l0 : ACode :=
  .seq (.ops [
    ⟨some 9, .pur (.bin .lss), [.t 8, .t 7], none⟩]) <|
  .seq (.cond (.t 9) (.skip) (.exit 0)) <|
  .seq (.block 1 (.seq (.ops [
      ⟨some 10, .pur .mov, [.t 8], none⟩,
      ⟨some 5, .pur .mov, [.t 10], none⟩]) <|
    .seq (.ops [
      ⟨some 11, .pur .mov, [.t 1], none⟩,
      ⟨some 12, .pur .mov, [.t 0], none⟩,
      ⟨some 13, .pur .mov, [.t 5], none⟩,
      ⟨some 14, .pur (.iaddr 3), [.t 12, .t 13], none⟩,
      ⟨some 15, .ld none 3 true, [.t 14], none⟩,
      ⟨some 16, .callv, [.t 11, .t 15], none⟩]) <|
    .cond (.t 16) (.seq (.ops [
        ⟨some 17, .pur .mov, [.t 5], none⟩,
        ⟨some 4, .pur .mov, [.t 17], none⟩]) <|
      .ret) (.skip))) <|
  .ops [
    ⟨some 18, .pur (.bin .add), [.t 8, .k (.i (1))], none⟩,
    ⟨some 8, .pur .mov, [.t 18], none⟩]
def f408b : ACode :=
  .seq (.ops [
    ⟨some 4, .pur .mov, [.k (.i (0))], none⟩]) <|
  .seq (.seq (.ops [
    ⟨some 6, .pur .mov, [.t 0], none⟩,
    ⟨some 7, .pur .lenL, [.t 6], none⟩,
    ⟨some 8, .pur .mov, [.k (.i (0))], none⟩]) <|
  .block 0 (.loop [4, 5, 9, 10, 11, 12, 13, 14, 15, 16, 17, 18] [] f408_l0)) <|
  .seq (.ops [
    ⟨some 4, .pur .mov, [.k (.i (-1))], none⟩]) <|
  .ret
def f408 : AFunc := ⟨19, f408b, [.tmp 4]⟩
/- 412 sluiceway/deduce.ways$1 -/
def f412b : ACode :=
  .seq (.ops [
    ⟨some 1, .box .reg, [.t 0], none⟩,
    ⟨some 2, .pur .mov, [.k (.lst 0 true [])], none⟩]) <|
  .seq (.ops [
    ⟨some 2, .pur .mov, [.k (.lst 0 true [])], none⟩]) <|
  .ret
def f412 : AFunc := ⟨3, f412b, [.tmp 2]⟩
/- 413 sluiceway/deduce.ways$2 -/
def f413b : ACode :=
  .seq (.ops [
    ⟨some 1, .box .reg, [.t 0], none⟩,
    ⟨some 2, .pur .mov, [.k (.lst 0 true [])], none⟩]) <|
  .seq (.ops [
    ⟨some 3, .pur (.faddr 2), [.t 1], none⟩,
    ⟨some 4, .ld (some 1) 1 false, [.t 3], none⟩,
    ⟨some 5, .pur (.sliceL 3 false true false), [.t 4, .k (.i (1))], none⟩,
    ⟨some 2, .pur .mov, [.t 5], none⟩]) <|
  .ret
def f413 : AFunc := ⟨6, f413b, [.tmp 2]⟩
/- 414 sluiceway/deduce.ways$3 -/
def f414b : ACode :=
  .seq (.ops [
    ⟨some 1, .box .reg, [.t 0], none⟩,
    ⟨some 2, .pur .mov, [.k (.lst 0 true [])], none⟩]) <|
  .seq (.ops [
    ⟨some 3, .pur (.faddr 2), [.t 1], none⟩,
    ⟨some 4, .ld (some 1) 1 false, [.t 3], none⟩,
    ⟨some 5, .pur (.sliceL 3 true false false), [.t 4, .k (.i (1))], none⟩,
    ⟨some 2, .pur .mov, [.t 5], none⟩]) <|
  .ret
def f414 : AFunc := ⟨6, f414b, [.tmp 2]⟩
/- 415 sluiceway/deduce.ways$4 -/
def f415b : ACode :=
  .seq (.ops [
    ⟨some 1, .box .reg, [.t 0], none⟩,
    ⟨some 2, .pur .mov, [.k (.lst 0 true [])], none⟩]) <|
  .seq (.ops [
    ⟨some 3, .pur (.faddr 2), [.t 1], none⟩,
    ⟨some 4, .ld (some 1) 1 false, [.t 3], none⟩,
    ⟨some 2, .pur .mov, [.t 4], none⟩]) <|
  .ret
def f415 : AFunc := ⟨5, f415b, [.tmp 2]⟩
/- 423 (sluiceway/offline.views).gained$1 -/
def f423b : ACode :=
  .seq (.ops [
    ⟨some 2, .pur .ibox, [.t 0], none⟩,
    ⟨some 4, .pur .mov, [.k (.b false)], none⟩]) <|
  .seq (.ops [
    ⟨some 5, .pur .mov, [.t 1], none⟩,
    ⟨some 6, .pur (.mkfn 424 0), [.t 2], none⟩,
    ⟨some 7, .call 320, [.t 5, .t 6], none⟩,
    ⟨some 8, .pur (.un .not), [.t 7], none⟩,
    ⟨some 4, .pur .mov, [.t 8], none⟩]) <|
  .ret
def f423 : AFunc := ⟨9, f423b, [.tmp 4]⟩
/- 424 (sluiceway/offline.views).gained$1$1 -/
def f424b : ACode :=
  .seq (.ops [
    ⟨some 2, .box .reg, [.t 0], none⟩,
    ⟨some 3, .pur .mov, [.k (.b false)], none⟩]) <|
  .seq (.ops [
    ⟨some 4, .ld none 1 false, [.t 1], none⟩,
    ⟨some 5, .ld (some 2) 3 true, [.t 2], none⟩,
    ⟨some 6, .call 231, [.t 4, .t 5], none⟩,
    ⟨some 7, .pur (.un .not), [.t 6], none⟩,
    ⟨some 3, .pur .mov, [.t 7], none⟩]) <|
  .ret
def f424 : AFunc := ⟨8, f424b, [.tmp 3]⟩
/- 425 slices.ContainsFunc[[][]sluiceway/api.Term,[]sluiceway/api.Term] -/
def f425b : ACode :=
  .seq (.ops [
    ⟨some 4, .pur .mov, [.k (.b false)], none⟩]) <|
  .seq (.ops [
    ⟨some 5, .pur .mov, [.t 0], none⟩,
    ⟨some 6, .pur .mov, [.t 1], none⟩,
    ⟨some 7, .call 465, [.t 5, .t 6], none⟩,
    ⟨some 8, .pur (.bin .geq), [.t 7, .k (.i (0))], none⟩,
    ⟨some 4, .pur .mov, [.t 8], none⟩]) <|
  .ret
def f425 : AFunc := ⟨9, f425b, [.tmp 4]⟩
/- 426 (sluiceway/offline.views).gained$2 -/
def f426b : ACode :=
  .seq (.ops [
    ⟨some 4, .pur .mov, [.k (.b false)], none⟩]) <|
  .seq (.ops [
    ⟨some 5, .ld none 1 false, [.t 1], none⟩,
    ⟨some 6, .pur (.faddr 1), [.t 2], none⟩,
    ⟨some 7, .ld none 1 false, [.t 6], none⟩,
    ⟨some 8, .pur .mov, [.t 0], none⟩,
    ⟨some 9, .callv, [.t 5, .t 7, .t 8], none⟩,
    ⟨some 4, .pur .mov, [.t 9], none⟩]) <|
  .ret
def f426 : AFunc := ⟨10, f426b, [.tmp 4]⟩
/- 427 (sluiceway/offline.views).gained$3 -/
def f427b : ACode :=
  .seq (.ops [
    ⟨some 4, .pur .mov, [.k (.b false)], none⟩]) <|
  .seq (.ops [
    ⟨some 5, .ld none 1 false, [.t 1], none⟩,
    ⟨some 6, .pur (.faddr 0), [.t 2], none⟩,
    ⟨some 7, .ld none 1 false, [.t 6], none⟩,
    ⟨some 8, .pur .mov, [.t 0], none⟩,
    ⟨some 9, .callv, [.t 5, .t 7, .t 8], none⟩,
    ⟨some 4, .pur .mov, [.t 9], none⟩]) <|
  .ret
def f427 : AFunc := ⟨10, f427b, [.tmp 4]⟩
/- 465 slices.IndexFunc[[][]sluiceway/api.Term,[]sluiceway/api.Term] -/
def f465_l0 : ACode :=
  .seq (.ops [
    ⟨some 9, .pur (.bin .lss), [.t 8, .t 7], none⟩]) <|
  .seq (.cond (.t 9) (.skip) (.exit 0)) <|
  .seq (.block 1 (.seq (.ops [
      ⟨some 10, .pur .mov, [.t 8], none⟩,
      ⟨some 5, .pur .mov, [.t 10], none⟩]) <|
    .seq (.ops [
      ⟨some 11, .pur .mov, [.t 1], none⟩,
      ⟨some 12, .pur .mov, [.t 0], none⟩,
      ⟨some 13, .pur .mov, [.t 5], none⟩,
      ⟨some 14, .pur (.iaddr 1), [.t 12, .t 13], none⟩,
      ⟨some 15, .ld none 1 false, [.t 14], none⟩,
      ⟨some 16, .callv, [.t 11, .t 15], none⟩]) <|
    .cond (.t 16) (.seq (.ops [
        ⟨some 17, .pur .mov, [.t 5], none⟩,
        ⟨some 4, .pur .mov, [.t 17], none⟩]) <|
      .ret) (.skip))) <|
  .ops [
    ⟨some 18, .pur (.bin .add), [.t 8, .k (.i (1))], none⟩,
    ⟨some 8, .pur .mov, [.t 18], none⟩]
def f465b : ACode :=
  .seq (.ops [
    ⟨some 4, .pur .mov, [.k (.i (0))], none⟩]) <|
  .seq (.seq (.ops [
    ⟨some 6, .pur .mov, [.t 0], none⟩,
    ⟨some 7, .pur .lenL, [.t 6], none⟩,
    ⟨some 8, .pur .mov, [.k (.i (0))], none⟩]) <|
  .block 0 (.loop [4, 5, 9, 10, 11, 12, 13, 14, 15, 16, 17, 18] [] f465_l0)) <|
  .seq (.ops [
    ⟨some 4, .pur .mov, [.k (.i (-1))], none⟩]) <|
  .ret
def f465 : AFunc := ⟨19, f465b, [.tmp 4]⟩
end Abs
