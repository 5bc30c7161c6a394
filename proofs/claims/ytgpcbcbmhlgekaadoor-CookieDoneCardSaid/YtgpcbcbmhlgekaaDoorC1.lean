/- The code of functions (printed by gen/Gen.lean). -/
import Derived.Test.YtgpcbcbmhlgekaaDoorE3
set_option linter.unusedVariables false
set_option linter.unusedSimpArgs false
set_option linter.unusedSectionVars false
namespace Abs
open Go
/- 12 sluiceway/sluicewaylaw15.MessageMakes -/
def f12b : ACode :=
  .seq (.ops [
    ⟨some 7, .box .reg, [.t 1], none⟩,
    ⟨some 8, .box .reg, [.t 2], none⟩,
    ⟨some 9, .box .reg, [.t 3], none⟩,
    ⟨some 12, .pur .mov, [.k (.b false)], none⟩]) <|
  .seq (.ops [
    ⟨some 17, .call 59, [], none⟩,
    ⟨some 13, .pur .mov, [.t 17], none⟩]) <|
  .seq (.ops [
    ⟨some 18, .ld (some 7) 3 true, [.t 7], none⟩,
    ⟨some 19, .call 60, [.t 18], none⟩,
    ⟨none, .st (some 7) 3, [.t 7, .t 19], none⟩]) <|
  .seq (.ops [
    ⟨some 20, .ld (some 8) 3 true, [.t 8], none⟩,
    ⟨some 21, .call 60, [.t 20], none⟩,
    ⟨none, .st (some 8) 3, [.t 8, .t 21], none⟩]) <|
  .seq (.ops [
    ⟨some 22, .ld (some 9) 3 true, [.t 9], none⟩,
    ⟨some 23, .call 60, [.t 22], none⟩,
    ⟨none, .st (some 9) 3, [.t 9, .t 23], none⟩]) <|
  .seq (.ops [
    ⟨some 24, .pur .mov, [.t 4], none⟩,
    ⟨some 25, .pur .mov, [.t 4], none⟩,
    ⟨some 26, .pur .lenL, [.t 25], none⟩,
    ⟨some 27, .pur .min, [.t 26, .k (.i (10))], none⟩,
    ⟨some 28, .pur (.sliceL 1 false true false), [.t 24, .t 27], none⟩,
    ⟨some 4, .pur .mov, [.t 28], none⟩]) <|
  .seq (.seq (.ops [
    ⟨some 29, .pur .mov, [.t 5], none⟩,
    ⟨some 30, .pur (.bin .eql), [.t 29, .k (.i (-9223372036854775808))], none⟩]) <|
  .cond (.t 30) (.ops [
      ⟨some 5, .pur .mov, [.k (.i (0))], none⟩]) (.skip)) <|
  .seq (.ops [
    ⟨some 31, .pur .mov, [.t 0], none⟩,
    ⟨some 32, .ld (some 7) 3 true, [.t 7], none⟩,
    ⟨some 33, .ld (some 8) 3 true, [.t 8], none⟩,
    ⟨some 34, .ld (some 9) 3 true, [.t 9], none⟩,
    ⟨some 35, .pur (.buildSl 3 3 [.i (0), .s ⟨#[]⟩, .lst 0 true []] [0, 1, 2]), [.t 32, .t 33, .t 34], none⟩,
    ⟨some 36, .call 62, [.t 31, .t 35], none⟩,
    ⟨some 37, .pur .mov, [.t 0], none⟩,
    ⟨some 38, .ld (some 7) 3 true, [.t 7], none⟩,
    ⟨some 39, .ld (some 8) 3 true, [.t 8], none⟩,
    ⟨some 40, .ld (some 9) 3 true, [.t 9], none⟩,
    ⟨some 41, .pur (.buildSl 3 3 [.i (0), .s ⟨#[]⟩, .lst 0 true []] [0, 1, 2]), [.t 38, .t 39, .t 40], none⟩,
    ⟨some 42, .call 63, [.t 37, .t 41], none⟩,
    ⟨some 43, .call 61, [.t 36, .t 42], none⟩,
    ⟨some 44, .pur .mov, [.t 43], none⟩,
    ⟨some 45, .pur .mov, [.t 0], some (44, true)⟩,
    ⟨some 46, .call 64, [.t 45], some (44, true)⟩,
    ⟨some 47, .pur .mov, [.t 0], some (44, true)⟩,
    ⟨some 48, .call 65, [.t 47], some (44, true)⟩,
    ⟨some 49, .call 61, [.t 46, .t 48], some (44, true)⟩,
    ⟨some 50, .pur .pick, [.t 44, .t 49, .k (.b false)], none⟩,
    ⟨some 51, .pur .mov, [.t 50], none⟩,
    ⟨some 52, .pur .mov, [.t 5], some (51, true)⟩,
    ⟨some 53, .call 66, [.t 52], some (51, true)⟩,
    ⟨some 54, .pur .mov, [.t 5], some (51, true)⟩,
    ⟨some 55, .call 67, [.t 54], some (51, true)⟩,
    ⟨some 56, .call 61, [.t 53, .t 55], some (51, true)⟩,
    ⟨some 57, .pur .pick, [.t 51, .t 56, .k (.b false)], none⟩,
    ⟨some 14, .pur .mov, [.t 57], none⟩]) <|
  .seq (.ops [
    ⟨some 58, .pur .mov, [.t 4], none⟩,
    ⟨some 59, .call 68, [.t 58], none⟩,
    ⟨some 60, .pur .mov, [.t 4], none⟩,
    ⟨some 61, .call 69, [.t 60], none⟩,
    ⟨some 62, .call 61, [.t 59, .t 61], none⟩,
    ⟨some 63, .pur .mov, [.t 62], none⟩,
    ⟨some 64, .ld (some 7) 3 true, [.t 7], some (63, true)⟩,
    ⟨some 65, .ld (some 8) 3 true, [.t 8], some (63, true)⟩,
    ⟨some 66, .ld (some 9) 3 true, [.t 9], some (63, true)⟩,
    ⟨some 67, .call 70, [.t 64, .t 65, .t 66], some (63, true)⟩,
    ⟨some 68, .ld (some 7) 3 true, [.t 7], some (63, true)⟩,
    ⟨some 69, .ld (some 8) 3 true, [.t 8], some (63, true)⟩,
    ⟨some 70, .ld (some 9) 3 true, [.t 9], some (63, true)⟩,
    ⟨some 71, .call 71, [.t 68, .t 69, .t 70], some (63, true)⟩,
    ⟨some 72, .call 61, [.t 67, .t 71], some (63, true)⟩,
    ⟨some 73, .pur .pick, [.t 63, .t 72, .k (.b false)], none⟩,
    ⟨some 74, .pur .mov, [.t 73], none⟩,
    ⟨some 75, .pur .mov, [.t 5], some (74, true)⟩,
    ⟨some 76, .call 72, [.t 75], some (74, true)⟩,
    ⟨some 77, .pur .mov, [.t 5], some (74, true)⟩,
    ⟨some 78, .call 73, [.t 77], some (74, true)⟩,
    ⟨some 79, .call 61, [.t 76, .t 78], some (74, true)⟩,
    ⟨some 80, .pur .pick, [.t 74, .t 79, .k (.b false)], none⟩,
    ⟨some 15, .pur .mov, [.t 80], none⟩]) <|
  .seq (.ops [
    ⟨some 81, .call 74, [], none⟩,
    ⟨some 82, .call 75, [], none⟩,
    ⟨some 83, .call 61, [.t 81, .t 82], none⟩,
    ⟨some 84, .pur .mov, [.t 83], none⟩,
    ⟨some 85, .pur .mov, [.t 0], some (84, true)⟩,
    ⟨some 86, .call 76, [.t 85, .k (.s ⟨#[120]⟩)], some (84, true)⟩,
    ⟨some 87, .pur .mov, [.t 0], some (84, true)⟩,
    ⟨some 88, .call 77, [.t 87, .k (.s ⟨#[120]⟩)], some (84, true)⟩,
    ⟨some 89, .call 61, [.t 86, .t 88], some (84, true)⟩,
    ⟨some 90, .pur .pick, [.t 84, .t 89, .k (.b false)], none⟩,
    ⟨some 16, .pur .mov, [.t 90], none⟩]) <|
  .seq (.ops [
    ⟨some 91, .pur .mov, [.t 13], none⟩,
    ⟨some 92, .pur .mov, [.t 91], none⟩,
    ⟨some 93, .pur .mov, [.t 14], some (92, true)⟩,
    ⟨some 94, .pur .pick, [.t 92, .t 93, .k (.b false)], none⟩,
    ⟨some 95, .pur .mov, [.t 94], none⟩,
    ⟨some 96, .pur .mov, [.t 15], some (95, true)⟩,
    ⟨some 97, .pur .pick, [.t 95, .t 96, .k (.b false)], none⟩,
    ⟨some 98, .pur .mov, [.t 97], none⟩,
    ⟨some 99, .pur .mov, [.t 16], some (98, true)⟩,
    ⟨some 100, .pur .pick, [.t 98, .t 99, .k (.b false)], none⟩,
    ⟨some 12, .pur .mov, [.t 100], none⟩]) <|
  .ret
def f12 : AFunc := ⟨101, f12b, [.tmp 12]⟩
/- 13 sluiceway/sluicewaylaw15.MessageReads -/
def f13b : ACode :=
  .seq (.ops [
    ⟨some 3, .box .reg, [.t 0], none⟩,
    ⟨some 6, .pur .mov, [.k (.b false)], none⟩]) <|
  .seq (.ops [
    ⟨some 42, .call 59, [], none⟩,
    ⟨some 7, .pur .mov, [.t 42], none⟩]) <|
  .seq (.ops [
    ⟨some 43, .ld (some 3) 3 true, [.t 3], none⟩,
    ⟨some 44, .call 60, [.t 43], none⟩,
    ⟨none, .st (some 3) 3, [.t 3, .t 44], none⟩]) <|
  .seq (.ops [
    ⟨some 45, .pur .mov, [.t 2], none⟩,
    ⟨some 46, .pur (.bin .and), [.t 45, .k (.i (15))], none⟩,
    ⟨some 2, .pur .mov, [.t 46], none⟩]) <|
  .seq (.ops [
    ⟨some 48, .pur .mov, [.t 1], none⟩,
    ⟨some 49, .pur .mov, [.t 2], none⟩,
    ⟨some 50, .ld (some 3) 3 true, [.t 3], none⟩,
    ⟨some 51, .call 78, [.t 48, .t 49, .t 50], none⟩,
    ⟨some 47, .pur .mov, [.t 51], none⟩,
    ⟨some 52, .pur (.extract 0), [.t 47], none⟩,
    ⟨some 53, .pur (.extract 1), [.t 47], none⟩,
    ⟨some 8, .pur .mov, [.t 52], none⟩,
    ⟨some 9, .pur .mov, [.t 53], none⟩]) <|
  .seq (.ops [
    ⟨some 55, .pur .mov, [.t 1], none⟩,
    ⟨some 56, .pur .mov, [.t 2], none⟩,
    ⟨some 57, .ld (some 3) 3 true, [.t 3], none⟩,
    ⟨some 58, .call 79, [.t 55, .t 56, .t 57], none⟩,
    ⟨some 54, .pur .mov, [.t 58], none⟩,
    ⟨some 59, .pur (.extract 0), [.t 54], none⟩,
    ⟨some 60, .pur (.extract 1), [.t 54], none⟩,
    ⟨some 10, .pur .mov, [.t 59], none⟩,
    ⟨some 11, .pur .mov, [.t 60], none⟩]) <|
  .seq (.seq (.ops [
    ⟨some 61, .pur .mov, [.t 9], none⟩,
    ⟨some 62, .pur .mov, [.t 11], none⟩,
    ⟨some 63, .pur (.eqB true), [.t 61, .t 62], none⟩,
    ⟨some 64, .pur .mov, [.t 63], none⟩,
    ⟨some 65, .pur .mov, [.t 8], some (64, false)⟩,
    ⟨some 66, .pur .mov, [.t 10], some (64, false)⟩,
    ⟨some 67, .call 80, [.t 65, .t 66], some (64, false)⟩,
    ⟨some 68, .pur (.un .not), [.t 67], some (64, false)⟩,
    ⟨some 69, .pur .pick, [.t 64, .k (.b true), .t 68], none⟩,
    ⟨some 70, .pur .mov, [.t 69], none⟩,
    ⟨some 71, .ld (some 3) 3 true, [.t 3], some (70, false)⟩,
    ⟨some 72, .call 81, [.t 71], some (70, false)⟩,
    ⟨some 73, .ld (some 3) 3 true, [.t 3], some (70, false)⟩,
    ⟨some 74, .call 82, [.t 73], some (70, false)⟩,
    ⟨some 75, .pur (.bin .neq), [.t 72, .t 74], some (70, false)⟩,
    ⟨some 76, .pur .pick, [.t 70, .k (.b true), .t 75], none⟩,
    ⟨some 77, .pur .mov, [.t 76], none⟩,
    ⟨some 78, .ld (some 3) 3 true, [.t 3], some (77, false)⟩,
    ⟨some 79, .call 83, [.t 78], some (77, false)⟩,
    ⟨some 80, .ld (some 3) 3 true, [.t 3], some (77, false)⟩,
    ⟨some 81, .call 84, [.t 80], some (77, false)⟩,
    ⟨some 82, .pur (.eqB true), [.t 79, .t 81], some (77, false)⟩,
    ⟨some 83, .pur .pick, [.t 77, .k (.b true), .t 82], none⟩]) <|
  .cond (.t 83) (.seq (.ops [
      ⟨some 6, .pur .mov, [.k (.b false)], none⟩]) <|
    .ret) (.skip)) <|
  .seq (.ops [
    ⟨some 85, .ld (some 3) 3 true, [.t 3], none⟩,
    ⟨some 86, .call 85, [.t 85], none⟩,
    ⟨some 84, .pur .mov, [.t 86], none⟩,
    ⟨some 87, .pur (.extract 0), [.t 84], none⟩,
    ⟨some 88, .pur (.extract 1), [.t 84], none⟩,
    ⟨some 12, .pur .mov, [.t 87], none⟩,
    ⟨some 13, .pur .mov, [.t 88], none⟩]) <|
  .seq (.ops [
    ⟨some 90, .ld (some 3) 3 true, [.t 3], none⟩,
    ⟨some 91, .call 86, [.t 90], none⟩,
    ⟨some 89, .pur .mov, [.t 91], none⟩,
    ⟨some 92, .pur (.extract 0), [.t 89], none⟩,
    ⟨some 93, .pur (.extract 1), [.t 89], none⟩,
    ⟨some 14, .pur .mov, [.t 92], none⟩,
    ⟨some 15, .pur .mov, [.t 93], none⟩]) <|
  .seq (.ops [
    ⟨some 95, .ld (some 3) 3 true, [.t 3], none⟩,
    ⟨some 96, .call 87, [.t 95], none⟩,
    ⟨some 94, .pur .mov, [.t 96], none⟩,
    ⟨some 97, .pur (.extract 0), [.t 94], none⟩,
    ⟨some 98, .pur (.extract 1), [.t 94], none⟩,
    ⟨some 16, .pur .mov, [.t 97], none⟩,
    ⟨some 17, .pur .mov, [.t 98], none⟩]) <|
  .seq (.ops [
    ⟨some 100, .ld (some 3) 3 true, [.t 3], none⟩,
    ⟨some 101, .call 88, [.t 100], none⟩,
    ⟨some 99, .pur .mov, [.t 101], none⟩,
    ⟨some 102, .pur (.extract 0), [.t 99], none⟩,
    ⟨some 103, .pur (.extract 1), [.t 99], none⟩,
    ⟨some 18, .pur .mov, [.t 102], none⟩,
    ⟨some 19, .pur .mov, [.t 103], none⟩]) <|
  .seq (.ops [
    ⟨some 105, .ld (some 3) 3 true, [.t 3], none⟩,
    ⟨some 106, .call 89, [.t 105], none⟩,
    ⟨some 104, .pur .mov, [.t 106], none⟩,
    ⟨some 107, .pur (.extract 0), [.t 104], none⟩,
    ⟨some 108, .pur (.extract 1), [.t 104], none⟩,
    ⟨some 20, .pur .mov, [.t 107], none⟩,
    ⟨some 21, .pur .mov, [.t 108], none⟩]) <|
  .seq (.ops [
    ⟨some 110, .ld (some 3) 3 true, [.t 3], none⟩,
    ⟨some 111, .call 90, [.t 110], none⟩,
    ⟨some 109, .pur .mov, [.t 111], none⟩,
    ⟨some 112, .pur (.extract 0), [.t 109], none⟩,
    ⟨some 113, .pur (.extract 1), [.t 109], none⟩,
    ⟨some 22, .pur .mov, [.t 112], none⟩,
    ⟨some 23, .pur .mov, [.t 113], none⟩]) <|
  .seq (.seq (.ops [
    ⟨some 114, .pur .mov, [.t 12], none⟩,
    ⟨some 115, .pur .mov, [.t 14], none⟩,
    ⟨some 116, .pur (.bin .neq), [.t 114, .t 115], none⟩,
    ⟨some 117, .pur .mov, [.t 116], none⟩,
    ⟨some 118, .pur .mov, [.t 13], some (117, false)⟩,
    ⟨some 119, .pur .mov, [.t 15], some (117, false)⟩,
    ⟨some 120, .pur (.eqB true), [.t 118, .t 119], some (117, false)⟩,
    ⟨some 121, .pur .pick, [.t 117, .k (.b true), .t 120], none⟩,
    ⟨some 122, .pur .mov, [.t 121], none⟩,
    ⟨some 123, .pur .mov, [.t 16], some (122, false)⟩,
    ⟨some 124, .pur .mov, [.t 18], some (122, false)⟩,
    ⟨some 125, .pur (.bin .neq), [.t 123, .t 124], some (122, false)⟩,
    ⟨some 126, .pur .pick, [.t 122, .k (.b true), .t 125], none⟩,
    ⟨some 127, .pur .mov, [.t 126], none⟩,
    ⟨some 128, .pur .mov, [.t 17], some (127, false)⟩,
    ⟨some 129, .pur .mov, [.t 19], some (127, false)⟩,
    ⟨some 130, .pur (.eqB true), [.t 128, .t 129], some (127, false)⟩,
    ⟨some 131, .pur .pick, [.t 127, .k (.b true), .t 130], none⟩,
    ⟨some 132, .pur .mov, [.t 131], none⟩,
    ⟨some 133, .pur .mov, [.t 20], some (132, false)⟩,
    ⟨some 134, .pur .mov, [.t 22], some (132, false)⟩,
    ⟨some 135, .call 91, [.t 133, .t 134], some (132, false)⟩,
    ⟨some 136, .pur (.un .not), [.t 135], some (132, false)⟩,
    ⟨some 137, .pur .pick, [.t 132, .k (.b true), .t 136], none⟩,
    ⟨some 138, .pur .mov, [.t 137], none⟩,
    ⟨some 139, .pur .mov, [.t 21], some (138, false)⟩,
    ⟨some 140, .pur .mov, [.t 23], some (138, false)⟩,
    ⟨some 141, .pur (.eqB true), [.t 139, .t 140], some (138, false)⟩,
    ⟨some 142, .pur .pick, [.t 138, .k (.b true), .t 141], none⟩]) <|
  .cond (.t 142) (.seq (.ops [
      ⟨some 6, .pur .mov, [.k (.b false)], none⟩]) <|
    .ret) (.skip)) <|
  .seq (.ops [
    ⟨some 144, .ld (some 3) 3 true, [.t 3], none⟩,
    ⟨some 145, .call 92, [.t 144], none⟩,
    ⟨some 143, .pur .mov, [.t 145], none⟩,
    ⟨some 146, .pur (.extract 0), [.t 143], none⟩,
    ⟨some 147, .pur (.extract 1), [.t 143], none⟩,
    ⟨some 148, .pur (.extract 2), [.t 143], none⟩,
    ⟨some 24, .pur .mov, [.t 146], none⟩,
    ⟨some 25, .pur .mov, [.t 147], none⟩,
    ⟨some 26, .pur .mov, [.t 148], none⟩]) <|
  .seq (.ops [
    ⟨some 150, .ld (some 3) 3 true, [.t 3], none⟩,
    ⟨some 151, .call 93, [.t 150], none⟩,
    ⟨some 149, .pur .mov, [.t 151], none⟩,
    ⟨some 152, .pur (.extract 0), [.t 149], none⟩,
    ⟨some 153, .pur (.extract 1), [.t 149], none⟩,
    ⟨some 154, .pur (.extract 2), [.t 149], none⟩,
    ⟨some 27, .pur .mov, [.t 152], none⟩,
    ⟨some 28, .pur .mov, [.t 153], none⟩,
    ⟨some 29, .pur .mov, [.t 154], none⟩]) <|
  .seq (.ops [
    ⟨some 156, .ld (some 3) 3 true, [.t 3], none⟩,
    ⟨some 157, .call 94, [.t 156], none⟩,
    ⟨some 155, .pur .mov, [.t 157], none⟩,
    ⟨some 158, .pur (.extract 0), [.t 155], none⟩,
    ⟨some 159, .pur (.extract 1), [.t 155], none⟩,
    ⟨some 160, .pur (.extract 2), [.t 155], none⟩,
    ⟨some 161, .pur (.extract 3), [.t 155], none⟩,
    ⟨some 30, .alloc .reg [.i (0), .s ⟨#[]⟩, .lst 0 true []], [], none⟩,
    ⟨some 31, .alloc .reg [.i (0), .s ⟨#[]⟩, .lst 0 true []], [], none⟩,
    ⟨some 32, .alloc .reg [.i (0), .s ⟨#[]⟩, .lst 0 true []], [], none⟩,
    ⟨none, .st (some 30) 3, [.t 30, .t 158], none⟩,
    ⟨none, .st (some 31) 3, [.t 31, .t 159], none⟩,
    ⟨none, .st (some 32) 3, [.t 32, .t 160], none⟩,
    ⟨some 33, .pur .mov, [.t 161], none⟩]) <|
  .seq (.ops [
    ⟨some 163, .ld (some 3) 3 true, [.t 3], none⟩,
    ⟨some 164, .call 95, [.t 163], none⟩,
    ⟨some 162, .pur .mov, [.t 164], none⟩,
    ⟨some 165, .pur (.extract 0), [.t 162], none⟩,
    ⟨some 166, .pur (.extract 1), [.t 162], none⟩,
    ⟨some 167, .pur (.extract 2), [.t 162], none⟩,
    ⟨some 168, .pur (.extract 3), [.t 162], none⟩,
    ⟨some 34, .alloc .reg [.i (0), .s ⟨#[]⟩, .lst 0 true []], [], none⟩,
    ⟨some 35, .alloc .reg [.i (0), .s ⟨#[]⟩, .lst 0 true []], [], none⟩,
    ⟨some 36, .alloc .reg [.i (0), .s ⟨#[]⟩, .lst 0 true []], [], none⟩,
    ⟨none, .st (some 34) 3, [.t 34, .t 165], none⟩,
    ⟨none, .st (some 35) 3, [.t 35, .t 166], none⟩,
    ⟨none, .st (some 36) 3, [.t 36, .t 167], none⟩,
    ⟨some 37, .pur .mov, [.t 168], none⟩]) <|
  .seq (.ops [
    ⟨some 170, .ld (some 3) 3 true, [.t 3], none⟩,
    ⟨some 171, .call 96, [.t 170], none⟩,
    ⟨some 169, .pur .mov, [.t 171], none⟩,
    ⟨some 172, .pur (.extract 0), [.t 169], none⟩,
    ⟨some 173, .pur (.extract 1), [.t 169], none⟩,
    ⟨some 38, .pur .mov, [.t 172], none⟩,
    ⟨some 39, .pur .mov, [.t 173], none⟩]) <|
  .seq (.ops [
    ⟨some 175, .ld (some 3) 3 true, [.t 3], none⟩,
    ⟨some 176, .call 97, [.t 175], none⟩,
    ⟨some 174, .pur .mov, [.t 176], none⟩,
    ⟨some 177, .pur (.extract 0), [.t 174], none⟩,
    ⟨some 178, .pur (.extract 1), [.t 174], none⟩,
    ⟨some 40, .pur .mov, [.t 177], none⟩,
    ⟨some 41, .pur .mov, [.t 178], none⟩]) <|
  .seq (.ops [
    ⟨some 179, .pur .mov, [.t 7], none⟩,
    ⟨some 180, .pur .mov, [.t 179], none⟩,
    ⟨some 181, .pur .mov, [.t 24], some (180, true)⟩,
    ⟨some 182, .pur .mov, [.t 27], some (180, true)⟩,
    ⟨some 183, .pur (.bin .eql), [.t 181, .t 182], some (180, true)⟩,
    ⟨some 184, .pur .pick, [.t 180, .t 183, .k (.b false)], none⟩,
    ⟨some 185, .pur .mov, [.t 184], none⟩,
    ⟨some 186, .pur .mov, [.t 25], some (185, true)⟩,
    ⟨some 187, .pur .mov, [.t 28], some (185, true)⟩,
    ⟨some 188, .pur (.bin .eql), [.t 186, .t 187], some (185, true)⟩,
    ⟨some 189, .pur .pick, [.t 185, .t 188, .k (.b false)], none⟩,
    ⟨some 190, .pur .mov, [.t 189], none⟩,
    ⟨some 191, .pur .mov, [.t 26], some (190, true)⟩,
    ⟨some 192, .pur .mov, [.t 29], some (190, true)⟩,
    ⟨some 193, .pur (.eqB false), [.t 191, .t 192], some (190, true)⟩,
    ⟨some 194, .pur .pick, [.t 190, .t 193, .k (.b false)], none⟩,
    ⟨some 195, .pur .mov, [.t 194], none⟩,
    ⟨some 196, .ld (some 30) 3 true, [.t 30], some (195, true)⟩,
    ⟨some 197, .ld (some 31) 3 true, [.t 31], some (195, true)⟩,
    ⟨some 198, .ld (some 32) 3 true, [.t 32], some (195, true)⟩,
    ⟨some 199, .pur (.buildSl 3 3 [.i (0), .s ⟨#[]⟩, .lst 0 true []] [0, 1, 2]), [.t 196, .t 197, .t 198], some (195, true)⟩,
    ⟨some 200, .ld (some 34) 3 true, [.t 34], some (195, true)⟩,
    ⟨some 201, .ld (some 35) 3 true, [.t 35], some (195, true)⟩,
    ⟨some 202, .ld (some 36) 3 true, [.t 36], some (195, true)⟩,
    ⟨some 203, .pur (.buildSl 3 3 [.i (0), .s ⟨#[]⟩, .lst 0 true []] [0, 1, 2]), [.t 200, .t 201, .t 202], some (195, true)⟩,
    ⟨some 204, .call 80, [.t 199, .t 203], some (195, true)⟩,
    ⟨some 205, .pur .pick, [.t 195, .t 204, .k (.b false)], none⟩,
    ⟨some 206, .pur .mov, [.t 205], none⟩,
    ⟨some 207, .pur .mov, [.t 33], some (206, true)⟩,
    ⟨some 208, .pur .mov, [.t 37], some (206, true)⟩,
    ⟨some 209, .pur (.eqB false), [.t 207, .t 208], some (206, true)⟩,
    ⟨some 210, .pur .pick, [.t 206, .t 209, .k (.b false)], none⟩,
    ⟨some 211, .pur .mov, [.t 210], none⟩,
    ⟨some 212, .pur .mov, [.t 38], some (211, true)⟩,
    ⟨some 213, .pur .mov, [.t 40], some (211, true)⟩,
    ⟨some 214, .pur (.bin .eql), [.t 212, .t 213], some (211, true)⟩,
    ⟨some 215, .pur .pick, [.t 211, .t 214, .k (.b false)], none⟩,
    ⟨some 216, .pur .mov, [.t 215], none⟩,
    ⟨some 217, .pur .mov, [.t 39], some (216, true)⟩,
    ⟨some 218, .pur .mov, [.t 41], some (216, true)⟩,
    ⟨some 219, .pur (.eqB false), [.t 217, .t 218], some (216, true)⟩,
    ⟨some 220, .pur .pick, [.t 216, .t 219, .k (.b false)], none⟩,
    ⟨some 6, .pur .mov, [.t 220], none⟩]) <|
  .ret
def f13 : AFunc := ⟨221, f13b, [.tmp 6]⟩
/- 15 sluiceway/sluicewaylaw15.MessageBack -/
def f15_l0 : ACode :=
  .seq (.seq (.ops [
    ⟨some 26, .pur .mov, [.t 11], none⟩,
    ⟨some 27, .pur .mov, [.t 1], none⟩,
    ⟨some 28, .pur .lenL, [.t 27], none⟩,
    ⟨some 29, .pur (.bin .lss), [.t 26, .t 28], none⟩,
    ⟨some 30, .pur .mov, [.t 29], none⟩,
    ⟨some 31, .pur .mov, [.t 11], some (30, true)⟩,
    ⟨some 32, .pur (.bin .lss), [.t 31, .k (.i (10))], some (30, true)⟩,
    ⟨some 33, .pur .pick, [.t 30, .t 32, .k (.b false)], none⟩]) <|
  .cond (.t 33) (.skip) (.exit 0)) <|
  .seq (.block 1 (.ops [
      ⟨some 36, .pur .mov, [.t 10], none⟩,
      ⟨some 37, .pur .mov, [.t 1], none⟩,
      ⟨some 38, .pur .mov, [.t 11], none⟩,
      ⟨some 39, .pur (.iaddr 3), [.t 37, .t 38], none⟩,
      ⟨some 40, .ld none 3 true, [.t 39], none⟩,
      ⟨some 41, .call 60, [.t 40], none⟩,
      ⟨some 42, .pur (.buildSl 3 1 [.i (0), .s ⟨#[]⟩, .lst 0 true []] [0]), [.t 41], none⟩,
      ⟨some 43, .append 3 48, [.t 36, .t 42], none⟩,
      ⟨some 10, .pur .mov, [.t 43], none⟩])) <|
  .ops [
    ⟨some 34, .pur .mov, [.t 11], none⟩,
    ⟨some 35, .pur (.bin .add), [.t 34, .k (.i (1))], none⟩,
    ⟨some 11, .pur .mov, [.t 35], none⟩]
def f15b : ACode :=
  .seq (.ops [
    ⟨some 8, .pur .mov, [.k (.b false)], none⟩]) <|
  .seq (.ops [
    ⟨some 25, .call 59, [], none⟩,
    ⟨some 9, .pur .mov, [.t 25], none⟩]) <|
  .seq (.ops [
    ⟨some 10, .pur .mov, [.k (.lst 0 true [])], none⟩]) <|
  .seq (.seq (.ops [
    ⟨some 11, .pur .mov, [.k (.i (0))], none⟩]) <|
  .block 0 (.loop [26, 27, 28, 29, 30, 31, 32, 33, 34, 35, 36, 37, 38, 39, 40, 41, 42, 43] [] f15_l0)) <|
  .seq (.ops [
    ⟨some 44, .pur .mov, [.t 2], none⟩,
    ⟨some 45, .pur .mov, [.t 2], none⟩,
    ⟨some 46, .pur .lenL, [.t 45], none⟩,
    ⟨some 47, .pur .min, [.t 46, .k (.i (10))], none⟩,
    ⟨some 48, .pur (.sliceL 1 false true false), [.t 44, .t 47], none⟩,
    ⟨some 2, .pur .mov, [.t 48], none⟩]) <|
  .seq (.seq (.ops [
    ⟨some 49, .pur .mov, [.t 0], none⟩,
    ⟨some 50, .pur (.bin .eql), [.t 49, .k (.s ⟨#[]⟩)], none⟩]) <|
  .cond (.t 50) (.ops [
      ⟨some 0, .pur .mov, [.k (.s ⟨#[116]⟩)], none⟩]) (.skip)) <|
  .seq (.ops [
    ⟨some 51, .pur .mov, [.t 3], none⟩,
    ⟨some 52, .pur (.bin .rem), [.t 51, .k (.i (100000000000000000))], none⟩,
    ⟨some 3, .pur .mov, [.t 52], none⟩]) <|
  .seq (.ops [
    ⟨some 53, .pur .mov, [.t 0], none⟩,
    ⟨some 54, .pur .mov, [.t 10], none⟩,
    ⟨some 55, .call 62, [.t 53, .t 54], none⟩,
    ⟨some 12, .alloc .reg [.i (0), .s ⟨#[]⟩, .lst 0 true []], [], none⟩,
    ⟨none, .st (some 12) 3, [.t 12, .t 55], none⟩]) <|
  .seq (.ops [
    ⟨some 57, .pur .mov, [.t 0], none⟩,
    ⟨some 58, .pur .mov, [.t 10], none⟩,
    ⟨some 59, .pur .lenL, [.t 58], none⟩,
    ⟨some 60, .ld (some 12) 3 true, [.t 12], none⟩,
    ⟨some 61, .call 78, [.t 57, .t 59, .t 60], none⟩,
    ⟨some 56, .pur .mov, [.t 61], none⟩,
    ⟨some 62, .pur (.extract 0), [.t 56], none⟩,
    ⟨some 63, .pur (.extract 1), [.t 56], none⟩,
    ⟨some 13, .pur .mov, [.t 62], none⟩,
    ⟨some 14, .pur .mov, [.t 63], none⟩]) <|
  .seq (.ops [
    ⟨some 65, .pur .mov, [.t 0], none⟩,
    ⟨some 66, .pur .mov, [.t 10], none⟩,
    ⟨some 67, .pur .lenL, [.t 66], none⟩,
    ⟨some 68, .pur (.bin .add), [.t 67, .k (.i (1))], none⟩,
    ⟨some 69, .ld (some 12) 3 true, [.t 12], none⟩,
    ⟨some 70, .call 78, [.t 65, .t 68, .t 69], none⟩,
    ⟨some 64, .pur .mov, [.t 70], none⟩,
    ⟨some 71, .pur (.extract 0), [.t 64], none⟩,
    ⟨some 72, .pur (.extract 1), [.t 64], none⟩,
    ⟨some 15, .pur .mov, [.t 71], none⟩,
    ⟨some 16, .pur .mov, [.t 72], none⟩]) <|
  .seq (.ops [
    ⟨some 74, .pur .mov, [.t 0], none⟩,
    ⟨some 75, .pur (.bin .add), [.t 74, .k (.s ⟨#[120]⟩)], none⟩,
    ⟨some 76, .pur .mov, [.t 10], none⟩,
    ⟨some 77, .pur .lenL, [.t 76], none⟩,
    ⟨some 78, .ld (some 12) 3 true, [.t 12], none⟩,
    ⟨some 79, .call 78, [.t 75, .t 77, .t 78], none⟩,
    ⟨some 73, .pur .mov, [.t 79], none⟩,
    ⟨some 80, .pur (.extract 0), [.t 73], none⟩,
    ⟨some 81, .pur (.extract 1), [.t 73], none⟩,
    ⟨some 17, .pur .mov, [.t 80], none⟩,
    ⟨some 18, .pur .mov, [.t 81], none⟩]) <|
  .seq (.ops [
    ⟨some 83, .pur .mov, [.t 2], none⟩,
    ⟨some 84, .call 68, [.t 83], none⟩,
    ⟨some 85, .call 89, [.t 84], none⟩,
    ⟨some 82, .pur .mov, [.t 85], none⟩,
    ⟨some 86, .pur (.extract 0), [.t 82], none⟩,
    ⟨some 87, .pur (.extract 1), [.t 82], none⟩,
    ⟨some 19, .pur .mov, [.t 86], none⟩,
    ⟨some 20, .pur .mov, [.t 87], none⟩]) <|
  .seq (.ops [
    ⟨some 89, .pur .mov, [.t 3], none⟩,
    ⟨some 90, .call 66, [.t 89], none⟩,
    ⟨some 91, .call 87, [.t 90], none⟩,
    ⟨some 88, .pur .mov, [.t 91], none⟩,
    ⟨some 92, .pur (.extract 0), [.t 88], none⟩,
    ⟨some 93, .pur (.extract 1), [.t 88], none⟩,
    ⟨some 21, .pur .mov, [.t 92], none⟩,
    ⟨some 22, .pur .mov, [.t 93], none⟩]) <|
  .seq (.ops [
    ⟨some 95, .pur .mov, [.t 0], none⟩,
    ⟨some 96, .call 64, [.t 95], none⟩,
    ⟨some 97, .call 85, [.t 96], none⟩,
    ⟨some 94, .pur .mov, [.t 97], none⟩,
    ⟨some 98, .pur (.extract 0), [.t 94], none⟩,
    ⟨some 99, .pur (.extract 1), [.t 94], none⟩,
    ⟨some 23, .pur .mov, [.t 98], none⟩,
    ⟨some 24, .pur .mov, [.t 99], none⟩]) <|
  .seq (.ops [
    ⟨some 100, .pur .mov, [.t 9], none⟩,
    ⟨some 101, .pur .mov, [.t 100], none⟩,
    ⟨some 102, .pur .mov, [.t 14], some (101, true)⟩,
    ⟨some 103, .pur .pick, [.t 101, .t 102, .k (.b false)], none⟩,
    ⟨some 104, .pur .mov, [.t 103], none⟩,
    ⟨some 105, .pur .mov, [.t 13], some (104, true)⟩,
    ⟨some 106, .pur .mov, [.t 10], some (104, true)⟩,
    ⟨some 107, .call 80, [.t 105, .t 106], some (104, true)⟩,
    ⟨some 108, .pur .pick, [.t 104, .t 107, .k (.b false)], none⟩,
    ⟨some 109, .pur .mov, [.t 108], none⟩,
    ⟨some 110, .pur .mov, [.t 16], some (109, true)⟩,
    ⟨some 111, .pur (.un .not), [.t 110], some (109, true)⟩,
    ⟨some 112, .pur .pick, [.t 109, .t 111, .k (.b false)], none⟩,
    ⟨some 113, .pur .mov, [.t 112], none⟩,
    ⟨some 114, .pur .mov, [.t 18], some (113, true)⟩,
    ⟨some 115, .pur (.un .not), [.t 114], some (113, true)⟩,
    ⟨some 116, .pur .pick, [.t 113, .t 115, .k (.b false)], none⟩,
    ⟨some 117, .pur .mov, [.t 116], none⟩,
    ⟨some 118, .pur .mov, [.t 20], some (117, true)⟩,
    ⟨some 119, .pur .pick, [.t 117, .t 118, .k (.b false)], none⟩,
    ⟨some 120, .pur .mov, [.t 119], none⟩,
    ⟨some 121, .pur .mov, [.t 19], some (120, true)⟩,
    ⟨some 122, .pur .mov, [.t 2], some (120, true)⟩,
    ⟨some 123, .call 91, [.t 121, .t 122], some (120, true)⟩,
    ⟨some 124, .pur .pick, [.t 120, .t 123, .k (.b false)], none⟩,
    ⟨some 125, .pur .mov, [.t 124], none⟩,
    ⟨some 126, .pur .mov, [.t 22], some (125, true)⟩,
    ⟨some 127, .pur .pick, [.t 125, .t 126, .k (.b false)], none⟩,
    ⟨some 128, .pur .mov, [.t 127], none⟩,
    ⟨some 129, .pur .mov, [.t 21], some (128, true)⟩,
    ⟨some 130, .pur .mov, [.t 3], some (128, true)⟩,
    ⟨some 131, .pur (.bin .eql), [.t 129, .t 130], some (128, true)⟩,
    ⟨some 132, .pur .pick, [.t 128, .t 131, .k (.b false)], none⟩,
    ⟨some 133, .pur .mov, [.t 132], none⟩,
    ⟨some 134, .pur .mov, [.t 24], some (133, true)⟩,
    ⟨some 135, .pur .pick, [.t 133, .t 134, .k (.b false)], none⟩,
    ⟨some 136, .pur .mov, [.t 135], none⟩,
    ⟨some 137, .pur .mov, [.t 23], some (136, true)⟩,
    ⟨some 138, .pur .mov, [.t 0], some (136, true)⟩,
    ⟨some 139, .pur (.bin .eql), [.t 137, .t 138], some (136, true)⟩,
    ⟨some 140, .pur .pick, [.t 136, .t 139, .k (.b false)], none⟩,
    ⟨some 8, .pur .mov, [.t 140], none⟩]) <|
  .ret
def f15 : AFunc := ⟨141, f15b, [.tmp 8]⟩
/- 16 sluiceway/sluicewaylaw15.MessageOnly -/
def f16b : ACode :=
  .seq (.ops [
    ⟨some 1, .box .reg, [.t 0], none⟩,
    ⟨some 2, .pur .mov, [.k (.b false)], none⟩]) <|
  .seq (.ops [
    ⟨some 19, .call 59, [], none⟩,
    ⟨some 3, .pur .mov, [.t 19], none⟩]) <|
  .seq (.ops [
    ⟨some 20, .ld (some 1) 3 true, [.t 1], none⟩,
    ⟨some 21, .call 60, [.t 20], none⟩,
    ⟨none, .st (some 1) 3, [.t 1, .t 21], none⟩]) <|
  .seq (.seq (.ops [
    ⟨some 23, .ld (some 1) 3 true, [.t 1], none⟩,
    ⟨some 24, .call 85, [.t 23], none⟩,
    ⟨some 22, .pur .mov, [.t 24], none⟩,
    ⟨some 25, .pur (.extract 0), [.t 22], none⟩,
    ⟨some 26, .pur (.extract 1), [.t 22], none⟩,
    ⟨some 4, .pur .mov, [.t 25], none⟩,
    ⟨some 5, .pur .mov, [.t 26], none⟩]) <|
  .seq (.ops [
    ⟨some 27, .pur .mov, [.t 5], none⟩,
    ⟨some 28, .pur .mov, [.t 27], none⟩,
    ⟨some 29, .pur .mov, [.t 4], some (28, true)⟩,
    ⟨some 30, .call 64, [.t 29], some (28, true)⟩,
    ⟨some 31, .ld (some 1) 3 true, [.t 1], some (28, true)⟩,
    ⟨some 32, .call 61, [.t 30, .t 31], some (28, true)⟩,
    ⟨some 33, .pur (.un .not), [.t 32], some (28, true)⟩,
    ⟨some 34, .pur .pick, [.t 28, .t 33, .k (.b false)], none⟩]) <|
  .cond (.t 34) (.seq (.ops [
      ⟨some 2, .pur .mov, [.k (.b false)], none⟩]) <|
    .ret) (.skip)) <|
  .seq (.seq (.ops [
    ⟨some 36, .ld (some 1) 3 true, [.t 1], none⟩,
    ⟨some 37, .call 87, [.t 36], none⟩,
    ⟨some 35, .pur .mov, [.t 37], none⟩,
    ⟨some 38, .pur (.extract 0), [.t 35], none⟩,
    ⟨some 39, .pur (.extract 1), [.t 35], none⟩,
    ⟨some 6, .pur .mov, [.t 38], none⟩,
    ⟨some 7, .pur .mov, [.t 39], none⟩]) <|
  .seq (.ops [
    ⟨some 40, .pur .mov, [.t 7], none⟩,
    ⟨some 41, .pur .mov, [.t 40], none⟩,
    ⟨some 42, .pur .mov, [.t 6], some (41, true)⟩,
    ⟨some 43, .call 66, [.t 42], some (41, true)⟩,
    ⟨some 44, .ld (some 1) 3 true, [.t 1], some (41, true)⟩,
    ⟨some 45, .call 61, [.t 43, .t 44], some (41, true)⟩,
    ⟨some 46, .pur (.un .not), [.t 45], some (41, true)⟩,
    ⟨some 47, .pur .pick, [.t 41, .t 46, .k (.b false)], none⟩]) <|
  .cond (.t 47) (.seq (.ops [
      ⟨some 2, .pur .mov, [.k (.b false)], none⟩]) <|
    .ret) (.skip)) <|
  .seq (.seq (.ops [
    ⟨some 49, .ld (some 1) 3 true, [.t 1], none⟩,
    ⟨some 50, .call 89, [.t 49], none⟩,
    ⟨some 48, .pur .mov, [.t 50], none⟩,
    ⟨some 51, .pur (.extract 0), [.t 48], none⟩,
    ⟨some 52, .pur (.extract 1), [.t 48], none⟩,
    ⟨some 8, .pur .mov, [.t 51], none⟩,
    ⟨some 9, .pur .mov, [.t 52], none⟩]) <|
  .seq (.ops [
    ⟨some 53, .pur .mov, [.t 9], none⟩,
    ⟨some 54, .pur .mov, [.t 53], none⟩,
    ⟨some 55, .pur .mov, [.t 8], some (54, true)⟩,
    ⟨some 56, .call 68, [.t 55], some (54, true)⟩,
    ⟨some 57, .ld (some 1) 3 true, [.t 1], some (54, true)⟩,
    ⟨some 58, .call 61, [.t 56, .t 57], some (54, true)⟩,
    ⟨some 59, .pur (.un .not), [.t 58], some (54, true)⟩,
    ⟨some 60, .pur .pick, [.t 54, .t 59, .k (.b false)], none⟩]) <|
  .cond (.t 60) (.seq (.ops [
      ⟨some 2, .pur .mov, [.k (.b false)], none⟩]) <|
    .ret) (.skip)) <|
  .seq (.seq (.ops [
    ⟨some 62, .ld (some 1) 3 true, [.t 1], none⟩,
    ⟨some 63, .call 92, [.t 62], none⟩,
    ⟨some 61, .pur .mov, [.t 63], none⟩,
    ⟨some 64, .pur (.extract 0), [.t 61], none⟩,
    ⟨some 65, .pur (.extract 1), [.t 61], none⟩,
    ⟨some 66, .pur (.extract 2), [.t 61], none⟩,
    ⟨some 10, .pur .mov, [.t 64], none⟩,
    ⟨some 11, .pur .mov, [.t 65], none⟩,
    ⟨some 12, .pur .mov, [.t 66], none⟩]) <|
  .seq (.ops [
    ⟨some 67, .pur .mov, [.t 12], none⟩,
    ⟨some 68, .pur .mov, [.t 67], none⟩,
    ⟨some 69, .pur .mov, [.t 10], some (68, true)⟩,
    ⟨some 70, .pur .mov, [.t 11], some (68, true)⟩,
    ⟨some 71, .call 76, [.t 69, .t 70], some (68, true)⟩,
    ⟨some 72, .ld (some 1) 3 true, [.t 1], some (68, true)⟩,
    ⟨some 73, .call 61, [.t 71, .t 72], some (68, true)⟩,
    ⟨some 74, .pur (.un .not), [.t 73], some (68, true)⟩,
    ⟨some 75, .pur .pick, [.t 68, .t 74, .k (.b false)], none⟩]) <|
  .cond (.t 75) (.seq (.ops [
      ⟨some 2, .pur .mov, [.k (.b false)], none⟩]) <|
    .ret) (.skip)) <|
  .seq (.seq (.ops [
    ⟨some 77, .ld (some 1) 3 true, [.t 1], none⟩,
    ⟨some 78, .call 94, [.t 77], none⟩,
    ⟨some 76, .pur .mov, [.t 78], none⟩,
    ⟨some 79, .pur (.extract 0), [.t 76], none⟩,
    ⟨some 80, .pur (.extract 1), [.t 76], none⟩,
    ⟨some 81, .pur (.extract 2), [.t 76], none⟩,
    ⟨some 82, .pur (.extract 3), [.t 76], none⟩,
    ⟨some 13, .alloc .reg [.i (0), .s ⟨#[]⟩, .lst 0 true []], [], none⟩,
    ⟨some 14, .alloc .reg [.i (0), .s ⟨#[]⟩, .lst 0 true []], [], none⟩,
    ⟨some 15, .alloc .reg [.i (0), .s ⟨#[]⟩, .lst 0 true []], [], none⟩,
    ⟨none, .st (some 13) 3, [.t 13, .t 79], none⟩,
    ⟨none, .st (some 14) 3, [.t 14, .t 80], none⟩,
    ⟨none, .st (some 15) 3, [.t 15, .t 81], none⟩,
    ⟨some 16, .pur .mov, [.t 82], none⟩]) <|
  .seq (.ops [
    ⟨some 83, .pur .mov, [.t 16], none⟩,
    ⟨some 84, .pur .mov, [.t 83], none⟩,
    ⟨some 85, .ld (some 13) 3 true, [.t 13], some (84, true)⟩,
    ⟨some 86, .ld (some 14) 3 true, [.t 14], some (84, true)⟩,
    ⟨some 87, .ld (some 15) 3 true, [.t 15], some (84, true)⟩,
    ⟨some 88, .call 70, [.t 85, .t 86, .t 87], some (84, true)⟩,
    ⟨some 89, .ld (some 1) 3 true, [.t 1], some (84, true)⟩,
    ⟨some 90, .call 61, [.t 88, .t 89], some (84, true)⟩,
    ⟨some 91, .pur (.un .not), [.t 90], some (84, true)⟩,
    ⟨some 92, .pur .pick, [.t 84, .t 91, .k (.b false)], none⟩]) <|
  .cond (.t 92) (.seq (.ops [
      ⟨some 2, .pur .mov, [.k (.b false)], none⟩]) <|
    .ret) (.skip)) <|
  .seq (.seq (.ops [
    ⟨some 94, .ld (some 1) 3 true, [.t 1], none⟩,
    ⟨some 95, .call 96, [.t 94], none⟩,
    ⟨some 93, .pur .mov, [.t 95], none⟩,
    ⟨some 96, .pur (.extract 0), [.t 93], none⟩,
    ⟨some 97, .pur (.extract 1), [.t 93], none⟩,
    ⟨some 17, .pur .mov, [.t 96], none⟩,
    ⟨some 18, .pur .mov, [.t 97], none⟩]) <|
  .seq (.ops [
    ⟨some 98, .pur .mov, [.t 18], none⟩,
    ⟨some 99, .pur .mov, [.t 98], none⟩,
    ⟨some 100, .pur .mov, [.t 17], some (99, true)⟩,
    ⟨some 101, .call 72, [.t 100], some (99, true)⟩,
    ⟨some 102, .ld (some 1) 3 true, [.t 1], some (99, true)⟩,
    ⟨some 103, .call 61, [.t 101, .t 102], some (99, true)⟩,
    ⟨some 104, .pur (.un .not), [.t 103], some (99, true)⟩,
    ⟨some 105, .pur .pick, [.t 99, .t 104, .k (.b false)], none⟩]) <|
  .cond (.t 105) (.seq (.ops [
      ⟨some 2, .pur .mov, [.k (.b false)], none⟩]) <|
    .ret) (.skip)) <|
  .seq (.ops [
    ⟨some 106, .pur .mov, [.t 3], none⟩,
    ⟨some 107, .pur .mov, [.t 106], none⟩,
    ⟨some 108, .ld (some 1) 3 true, [.t 1], some (107, true)⟩,
    ⟨some 109, .call 83, [.t 108], some (107, true)⟩,
    ⟨some 110, .ld (some 1) 3 true, [.t 1], some (107, true)⟩,
    ⟨some 111, .call 74, [], some (107, true)⟩,
    ⟨some 112, .call 61, [.t 110, .t 111], some (107, true)⟩,
    ⟨some 113, .pur (.eqB false), [.t 109, .t 112], some (107, true)⟩,
    ⟨some 114, .pur .pick, [.t 107, .t 113, .k (.b false)], none⟩,
    ⟨some 2, .pur .mov, [.t 114], none⟩]) <|
  .ret
def f16 : AFunc := ⟨115, f16b, [.tmp 2]⟩
/- 17 sluiceway/sluicewaylaw14.CookieTells -/
def f17b : ACode :=
  .seq (.ops [
    ⟨some 4, .box .reg, [.t 0], none⟩,
    ⟨some 5, .box .reg, [.t 1], none⟩,
    ⟨some 6, .box .reg, [.t 2], none⟩,
    ⟨some 8, .pur .mov, [.k (.b false)], none⟩]) <|
  .seq (.ops [
    ⟨some 16, .call 107, [], none⟩,
    ⟨some 9, .pur .mov, [.t 16], none⟩]) <|
  .seq (.seq (.ops [
    ⟨some 17, .ld (some 4) 3 true, [.t 4], none⟩,
    ⟨some 18, .call 108, [.t 17], none⟩,
    ⟨some 19, .pur (.un .not), [.t 18], none⟩,
    ⟨some 20, .pur .mov, [.t 19], none⟩,
    ⟨some 21, .pur (.faddr 3), [.t 5], some (20, false)⟩,
    ⟨some 22, .ld (some 5) 3 true, [.t 21], some (20, false)⟩,
    ⟨some 23, .call 108, [.t 22], some (20, false)⟩,
    ⟨some 24, .pur (.un .not), [.t 23], some (20, false)⟩,
    ⟨some 25, .pur .pick, [.t 20, .k (.b true), .t 24], none⟩,
    ⟨some 26, .pur .mov, [.t 25], none⟩,
    ⟨some 27, .ld (some 6) 3 true, [.t 6], some (26, false)⟩,
    ⟨some 28, .call 108, [.t 27], some (26, false)⟩,
    ⟨some 29, .pur (.un .not), [.t 28], some (26, false)⟩,
    ⟨some 30, .pur .pick, [.t 26, .k (.b true), .t 29], none⟩]) <|
  .cond (.t 30) (.seq (.ops [
      ⟨some 31, .pur .mov, [.t 9], none⟩,
      ⟨some 8, .pur .mov, [.t 31], none⟩]) <|
    .ret) (.skip)) <|
  .seq (.ops [
    ⟨some 32, .ld (some 4) 3 true, [.t 4], none⟩,
    ⟨some 33, .ld (some 5) 7 true, [.t 5], none⟩,
    ⟨some 34, .call 110, [.t 33], none⟩,
    ⟨some 35, .call 109, [.t 32, .t 34], none⟩,
    ⟨some 10, .alloc .reg [.i (0), .s ⟨#[]⟩, .lst 0 true []], [], none⟩,
    ⟨none, .st (some 10) 3, [.t 10, .t 35], none⟩]) <|
  .seq (.ops [
    ⟨some 36, .ld (some 4) 3 true, [.t 4], none⟩,
    ⟨some 37, .ld (some 5) 7 true, [.t 5], none⟩,
    ⟨some 38, .call 110, [.t 37], none⟩,
    ⟨some 39, .call 111, [.t 36, .t 38], none⟩,
    ⟨some 11, .alloc .reg [.i (0), .s ⟨#[]⟩, .lst 0 true []], [], none⟩,
    ⟨none, .st (some 11) 3, [.t 11, .t 39], none⟩]) <|
  .seq (.ops [
    ⟨some 41, .ld (some 4) 3 true, [.t 4], none⟩,
    ⟨some 42, .ld (some 6) 3 true, [.t 6], none⟩,
    ⟨some 43, .pur .mov, [.t 3], none⟩,
    ⟨some 44, .call 112, [.t 41, .t 42, .t 43], none⟩,
    ⟨some 40, .pur .mov, [.t 44], none⟩,
    ⟨some 45, .pur (.extract 0), [.t 40], none⟩,
    ⟨some 46, .pur (.extract 1), [.t 40], none⟩,
    ⟨some 12, .alloc .reg [.s ⟨#[]⟩, .s ⟨#[]⟩, .lst 0 true [], .i (0), .s ⟨#[]⟩, .lst 0 true [], .i (0)], [], none⟩,
    ⟨none, .st (some 12) 7, [.t 12, .t 45], none⟩,
    ⟨some 13, .pur .mov, [.t 46], none⟩]) <|
  .seq (.ops [
    ⟨some 48, .ld (some 4) 3 true, [.t 4], none⟩,
    ⟨some 49, .ld (some 6) 3 true, [.t 6], none⟩,
    ⟨some 50, .pur .mov, [.t 3], none⟩,
    ⟨some 51, .call 113, [.t 48, .t 49, .t 50], none⟩,
    ⟨some 47, .pur .mov, [.t 51], none⟩,
    ⟨some 52, .pur (.extract 0), [.t 47], none⟩,
    ⟨some 53, .pur (.extract 1), [.t 47], none⟩,
    ⟨some 14, .alloc .reg [.s ⟨#[]⟩, .s ⟨#[]⟩, .lst 0 true [], .i (0), .s ⟨#[]⟩, .lst 0 true [], .i (0)], [], none⟩,
    ⟨none, .st (some 14) 7, [.t 14, .t 52], none⟩,
    ⟨some 15, .pur .mov, [.t 53], none⟩]) <|
  .seq (.ops [
    ⟨some 54, .pur .mov, [.t 9], none⟩,
    ⟨some 55, .pur .mov, [.t 54], none⟩,
    ⟨some 56, .ld (some 10) 3 true, [.t 10], some (55, true)⟩,
    ⟨some 57, .ld (some 11) 3 true, [.t 11], some (55, true)⟩,
    ⟨some 58, .call 114, [.t 56, .t 57], some (55, true)⟩,
    ⟨some 59, .pur .pick, [.t 55, .t 58, .k (.b false)], none⟩,
    ⟨some 60, .pur .mov, [.t 59], none⟩,
    ⟨some 61, .ld (some 12) 7 true, [.t 12], some (60, true)⟩,
    ⟨some 62, .ld (some 14) 7 true, [.t 14], some (60, true)⟩,
    ⟨some 63, .call 115, [.t 61, .t 62], some (60, true)⟩,
    ⟨some 64, .pur .pick, [.t 60, .t 63, .k (.b false)], none⟩,
    ⟨some 65, .pur .mov, [.t 64], none⟩,
    ⟨some 66, .pur .mov, [.t 13], some (65, true)⟩,
    ⟨some 67, .pur .mov, [.t 15], some (65, true)⟩,
    ⟨some 68, .pur (.bin .eql), [.t 66, .t 67], some (65, true)⟩,
    ⟨some 69, .pur .pick, [.t 65, .t 68, .k (.b false)], none⟩,
    ⟨some 8, .pur .mov, [.t 69], none⟩]) <|
  .ret
def f17 : AFunc := ⟨70, f17b, [.tmp 8]⟩
/- 18 sluiceway/sluicewaylaw14.CookieBack -/
def f18b : ACode :=
  .seq (.ops [
    ⟨some 4, .box .reg, [.t 0], none⟩,
    ⟨some 5, .box .reg, [.t 1], none⟩,
    ⟨some 7, .box .reg, [.t 3], none⟩,
    ⟨some 8, .pur .mov, [.k (.b false)], none⟩]) <|
  .seq (.ops [
    ⟨some 16, .call 107, [], none⟩,
    ⟨some 9, .pur .mov, [.t 16], none⟩]) <|
  .seq (.ops [
    ⟨some 17, .ld (some 5) 7 true, [.t 5], none⟩,
    ⟨some 18, .call 110, [.t 17], none⟩,
    ⟨none, .st (some 5) 7, [.t 5, .t 18], none⟩]) <|
  .seq (.seq (.ops [
    ⟨some 19, .ld (some 4) 3 true, [.t 4], none⟩,
    ⟨some 20, .call 108, [.t 19], none⟩,
    ⟨some 21, .pur (.un .not), [.t 20], none⟩,
    ⟨some 22, .pur .mov, [.t 21], none⟩,
    ⟨some 23, .pur (.faddr 3), [.t 5], some (22, false)⟩,
    ⟨some 24, .ld (some 5) 3 true, [.t 23], some (22, false)⟩,
    ⟨some 25, .call 108, [.t 24], some (22, false)⟩,
    ⟨some 26, .pur (.un .not), [.t 25], some (22, false)⟩,
    ⟨some 27, .pur .pick, [.t 22, .k (.b true), .t 26], none⟩,
    ⟨some 28, .pur .mov, [.t 27], none⟩,
    ⟨some 29, .ld (some 7) 3 true, [.t 7], some (28, false)⟩,
    ⟨some 30, .call 108, [.t 29], some (28, false)⟩,
    ⟨some 31, .pur (.un .not), [.t 30], some (28, false)⟩,
    ⟨some 32, .pur .pick, [.t 28, .k (.b true), .t 31], none⟩]) <|
  .cond (.t 32) (.seq (.ops [
      ⟨some 33, .pur .mov, [.t 9], none⟩,
      ⟨some 8, .pur .mov, [.t 33], none⟩]) <|
    .ret) (.skip)) <|
  .seq (.ops [
    ⟨some 34, .ld (some 4) 3 true, [.t 4], none⟩,
    ⟨some 35, .ld (some 5) 7 true, [.t 5], none⟩,
    ⟨some 36, .call 109, [.t 34, .t 35], none⟩,
    ⟨some 10, .alloc .reg [.i (0), .s ⟨#[]⟩, .lst 0 true []], [], none⟩,
    ⟨none, .st (some 10) 3, [.t 10, .t 36], none⟩]) <|
  .seq (.ops [
    ⟨some 37, .ld (some 4) 3 true, [.t 4], none⟩,
    ⟨some 38, .call 116, [.t 37], none⟩,
    ⟨some 39, .pur .mov, [.t 38], none⟩,
    ⟨some 40, .pur (.faddr 3), [.t 5], some (39, true)⟩,
    ⟨some 41, .ld (some 5) 3 true, [.t 40], some (39, true)⟩,
    ⟨some 42, .call 116, [.t 41], some (39, true)⟩,
    ⟨some 43, .pur .pick, [.t 39, .t 42, .k (.b false)], none⟩,
    ⟨some 44, .pur .mov, [.t 43], none⟩,
    ⟨some 45, .ld (some 4) 3 true, [.t 4], some (44, true)⟩,
    ⟨some 46, .call 117, [.t 45], some (44, true)⟩,
    ⟨some 47, .pur (.bin .leq), [.t 46, .k (.i (57))], some (44, true)⟩,
    ⟨some 48, .pur .pick, [.t 44, .t 47, .k (.b false)], none⟩,
    ⟨some 49, .pur .mov, [.t 48], none⟩,
    ⟨some 50, .pur (.faddr 3), [.t 5], some (49, true)⟩,
    ⟨some 51, .ld (some 5) 3 true, [.t 50], some (49, true)⟩,
    ⟨some 52, .call 117, [.t 51], some (49, true)⟩,
    ⟨some 53, .pur (.bin .leq), [.t 52, .k (.i (57))], some (49, true)⟩,
    ⟨some 54, .pur .pick, [.t 49, .t 53, .k (.b false)], none⟩,
    ⟨some 11, .pur .mov, [.t 54], none⟩]) <|
  .seq (.seq (.ops [
    ⟨some 55, .pur (.faddr 0), [.t 10], none⟩,
    ⟨some 56, .ld (some 10) 1 false, [.t 55], none⟩,
    ⟨some 57, .pur (.bin .eql), [.t 56, .k (.i (4))], none⟩,
    ⟨some 58, .pur .mov, [.t 11], none⟩,
    ⟨some 59, .pur (.eqB true), [.t 57, .t 58], none⟩,
    ⟨some 60, .pur .mov, [.t 59], none⟩,
    ⟨some 61, .pur .mov, [.t 11], some (60, false)⟩,
    ⟨some 62, .pur (.un .not), [.t 61], some (60, false)⟩,
    ⟨some 63, .pur .mov, [.t 62], some (60, false)⟩,
    ⟨some 64, .ld (some 10) 3 true, [.t 10], some (63, true)⟩,
    ⟨some 65, .pur (.build [.i (0), .s ⟨#[]⟩, .lst 0 true []] []), [], some (63, true)⟩,
    ⟨some 66, .call 118, [.t 64, .t 65], some (63, true)⟩,
    ⟨some 67, .pur (.un .not), [.t 66], some (63, true)⟩,
    ⟨some 68, .pur .pick, [.t 63, .t 67, .k (.b false)], some (60, false)⟩,
    ⟨some 69, .pur .pick, [.t 60, .k (.b true), .t 68], none⟩]) <|
  .cond (.t 69) (.seq (.ops [
      ⟨some 8, .pur .mov, [.k (.b false)], none⟩]) <|
    .ret) (.skip)) <|
  .seq (.seq (.ops [
    ⟨some 70, .pur .mov, [.t 11], none⟩,
    ⟨some 71, .pur (.un .not), [.t 70], none⟩]) <|
  .cond (.t 71) (.seq (.ops [
      ⟨some 72, .pur .mov, [.t 9], none⟩,
      ⟨some 8, .pur .mov, [.t 72], none⟩]) <|
    .ret) (.skip)) <|
  .seq (.ops [
    ⟨some 74, .ld (some 4) 3 true, [.t 4], none⟩,
    ⟨some 75, .ld (some 10) 3 true, [.t 10], none⟩,
    ⟨some 76, .pur .mov, [.t 2], none⟩,
    ⟨some 77, .call 112, [.t 74, .t 75, .t 76], none⟩,
    ⟨some 73, .pur .mov, [.t 77], none⟩,
    ⟨some 78, .pur (.extract 0), [.t 73], none⟩,
    ⟨some 79, .pur (.extract 1), [.t 73], none⟩,
    ⟨some 12, .alloc .reg [.s ⟨#[]⟩, .s ⟨#[]⟩, .lst 0 true [], .i (0), .s ⟨#[]⟩, .lst 0 true [], .i (0)], [], none⟩,
    ⟨none, .st (some 12) 7, [.t 12, .t 78], none⟩,
    ⟨some 13, .pur .mov, [.t 79], none⟩]) <|
  .seq (.seq (.ops [
    ⟨some 80, .pur .mov, [.t 2], none⟩,
    ⟨some 81, .pur (.faddr 6), [.t 5], none⟩,
    ⟨some 82, .ld (some 5) 1 false, [.t 81], none⟩,
    ⟨some 83, .pur (.bin .gtr), [.t 80, .t 82], none⟩]) <|
  .cond (.t 83) (.seq (.ops [
      ⟨some 84, .pur .mov, [.t 13], none⟩,
      ⟨some 85, .pur (.bin .neq), [.t 84, .k (.i (5))], none⟩,
      ⟨some 86, .pur .mov, [.t 85], none⟩,
      ⟨some 87, .pur (.faddr 0), [.t 12], some (86, false)⟩,
      ⟨some 88, .ld (some 12) 1 false, [.t 87], some (86, false)⟩,
      ⟨some 89, .pur (.bin .neq), [.t 88, .k (.s ⟨#[]⟩)], some (86, false)⟩,
      ⟨some 90, .pur .pick, [.t 86, .k (.b true), .t 89], none⟩,
      ⟨some 91, .pur .mov, [.t 90], none⟩,
      ⟨some 92, .pur (.faddr 6), [.t 12], some (91, false)⟩,
      ⟨some 93, .ld (some 12) 1 false, [.t 92], some (91, false)⟩,
      ⟨some 94, .pur (.bin .neq), [.t 93, .k (.i (0))], some (91, false)⟩,
      ⟨some 95, .pur .pick, [.t 91, .k (.b true), .t 94], none⟩]) <|
    .cond (.t 95) (.seq (.ops [
        ⟨some 8, .pur .mov, [.k (.b false)], none⟩]) <|
      .ret) (.skip)) (.seq (.ops [
      ⟨some 96, .pur .mov, [.t 13], none⟩,
      ⟨some 97, .pur (.bin .neq), [.t 96, .k (.i (0))], none⟩,
      ⟨some 98, .pur .mov, [.t 97], none⟩,
      ⟨some 99, .ld (some 5) 7 true, [.t 5], some (98, false)⟩,
      ⟨some 100, .ld (some 12) 7 true, [.t 12], some (98, false)⟩,
      ⟨some 101, .call 115, [.t 99, .t 100], some (98, false)⟩,
      ⟨some 102, .pur (.un .not), [.t 101], some (98, false)⟩,
      ⟨some 103, .pur .pick, [.t 98, .k (.b true), .t 102], none⟩]) <|
    .cond (.t 103) (.seq (.ops [
        ⟨some 8, .pur .mov, [.k (.b false)], none⟩]) <|
      .ret) (.skip))) <|
  .seq (.ops [
    ⟨some 105, .ld (some 7) 3 true, [.t 7], none⟩,
    ⟨some 106, .ld (some 10) 3 true, [.t 10], none⟩,
    ⟨some 107, .pur .mov, [.t 2], none⟩,
    ⟨some 108, .call 112, [.t 105, .t 106, .t 107], none⟩,
    ⟨some 104, .pur .mov, [.t 108], none⟩,
    ⟨some 109, .pur (.extract 0), [.t 104], none⟩,
    ⟨some 110, .pur (.extract 1), [.t 104], none⟩,
    ⟨some 14, .alloc .reg [.s ⟨#[]⟩, .s ⟨#[]⟩, .lst 0 true [], .i (0), .s ⟨#[]⟩, .lst 0 true [], .i (0)], [], none⟩,
    ⟨none, .st (some 14) 7, [.t 14, .t 109], none⟩,
    ⟨some 15, .pur .mov, [.t 110], none⟩]) <|
  .seq (.ops [
    ⟨some 111, .pur .mov, [.t 9], none⟩,
    ⟨some 112, .pur .mov, [.t 111], none⟩,
    ⟨some 113, .ld (some 10) 3 true, [.t 10], some (112, true)⟩,
    ⟨some 114, .call 116, [.t 113], some (112, true)⟩,
    ⟨some 115, .pur .pick, [.t 112, .t 114, .k (.b false)], none⟩,
    ⟨some 116, .pur .mov, [.t 115], none⟩,
    ⟨some 117, .ld (some 7) 3 true, [.t 7], some (116, true)⟩,
    ⟨some 118, .ld (some 4) 3 true, [.t 4], some (116, true)⟩,
    ⟨some 119, .call 118, [.t 117, .t 118], some (116, true)⟩,
    ⟨some 120, .pur .mov, [.t 119], some (116, true)⟩,
    ⟨some 121, .pur .mov, [.t 15], some (120, false)⟩,
    ⟨some 122, .pur (.bin .eql), [.t 121, .k (.i (4))], some (120, false)⟩,
    ⟨some 123, .pur .pick, [.t 120, .k (.b true), .t 122], some (116, true)⟩,
    ⟨some 124, .pur .pick, [.t 116, .t 123, .k (.b false)], none⟩,
    ⟨some 8, .pur .mov, [.t 124], none⟩]) <|
  .ret
def f18 : AFunc := ⟨125, f18b, [.tmp 8]⟩
/- 20 sluiceway/sluicewaylaw14.CookieForged -/
def f20b : ACode :=
  .seq (.ops [
    ⟨some 4, .box .reg, [.t 0], none⟩,
    ⟨some 5, .box .reg, [.t 1], none⟩,
    ⟨some 7, .box .reg, [.t 3], none⟩,
    ⟨some 8, .pur .mov, [.k (.b false)], none⟩]) <|
  .seq (.ops [
    ⟨some 15, .call 107, [], none⟩,
    ⟨some 9, .pur .mov, [.t 15], none⟩]) <|
  .seq (.ops [
    ⟨some 16, .ld (some 5) 7 true, [.t 5], none⟩,
    ⟨some 17, .call 110, [.t 16], none⟩,
    ⟨none, .st (some 5) 7, [.t 5, .t 17], none⟩]) <|
  .seq (.seq (.ops [
    ⟨some 18, .ld (some 4) 3 true, [.t 4], none⟩,
    ⟨some 19, .call 108, [.t 18], none⟩,
    ⟨some 20, .pur (.un .not), [.t 19], none⟩,
    ⟨some 21, .pur .mov, [.t 20], none⟩,
    ⟨some 22, .pur (.faddr 3), [.t 5], some (21, false)⟩,
    ⟨some 23, .ld (some 5) 3 true, [.t 22], some (21, false)⟩,
    ⟨some 24, .call 108, [.t 23], some (21, false)⟩,
    ⟨some 25, .pur (.un .not), [.t 24], some (21, false)⟩,
    ⟨some 26, .pur .pick, [.t 21, .k (.b true), .t 25], none⟩,
    ⟨some 27, .pur .mov, [.t 26], none⟩,
    ⟨some 28, .ld (some 7) 3 true, [.t 7], some (27, false)⟩,
    ⟨some 29, .call 108, [.t 28], some (27, false)⟩,
    ⟨some 30, .pur (.un .not), [.t 29], some (27, false)⟩,
    ⟨some 31, .pur .pick, [.t 27, .k (.b true), .t 30], none⟩]) <|
  .cond (.t 31) (.seq (.ops [
      ⟨some 32, .pur .mov, [.t 9], none⟩,
      ⟨some 8, .pur .mov, [.t 32], none⟩]) <|
    .ret) (.skip)) <|
  .seq (.ops [
    ⟨some 33, .ld (some 4) 3 true, [.t 4], none⟩,
    ⟨some 34, .ld (some 5) 7 true, [.t 5], none⟩,
    ⟨some 35, .call 109, [.t 33, .t 34], none⟩,
    ⟨some 10, .alloc .reg [.i (0), .s ⟨#[]⟩, .lst 0 true []], [], none⟩,
    ⟨none, .st (some 10) 3, [.t 10, .t 35], none⟩]) <|
  .seq (.seq (.ops [
    ⟨some 36, .pur (.faddr 2), [.t 10], none⟩,
    ⟨some 37, .ld (some 10) 1 false, [.t 36], none⟩,
    ⟨some 38, .pur .lenL, [.t 37], none⟩,
    ⟨some 39, .pur (.bin .neq), [.t 38, .k (.i (2))], none⟩,
    ⟨some 40, .pur .mov, [.t 39], none⟩,
    ⟨some 41, .pur (.faddr 2), [.t 10], some (40, false)⟩,
    ⟨some 42, .ld (some 10) 1 false, [.t 41], some (40, false)⟩,
    ⟨some 43, .pur (.iaddr 3), [.t 42, .k (.i (1))], some (40, false)⟩,
    ⟨some 44, .pur (.faddr 2), [.t 43], some (40, false)⟩,
    ⟨some 45, .ld none 1 false, [.t 44], some (40, false)⟩,
    ⟨some 46, .pur .lenL, [.t 45], some (40, false)⟩,
    ⟨some 47, .pur (.bin .neq), [.t 46, .k (.i (6))], some (40, false)⟩,
    ⟨some 48, .pur .pick, [.t 40, .k (.b true), .t 47], none⟩]) <|
  .cond (.t 48) (.seq (.ops [
      ⟨some 49, .pur .mov, [.t 9], none⟩,
      ⟨some 50, .pur .mov, [.t 49], none⟩,
      ⟨some 51, .pur (.faddr 0), [.t 10], some (50, true)⟩,
      ⟨some 52, .ld (some 10) 1 false, [.t 51], some (50, true)⟩,
      ⟨some 53, .pur (.bin .eql), [.t 52, .k (.i (0))], some (50, true)⟩,
      ⟨some 54, .pur .pick, [.t 50, .t 53, .k (.b false)], none⟩,
      ⟨some 8, .pur .mov, [.t 54], none⟩]) <|
    .ret) (.skip)) <|
  .seq (.ops [
    ⟨some 55, .pur (.buildSl 3 0 [.i (0), .s ⟨#[]⟩, .lst 0 true []] []), [], none⟩,
    ⟨some 56, .pur (.faddr 2), [.t 10], none⟩,
    ⟨some 57, .ld (some 10) 1 false, [.t 56], none⟩,
    ⟨some 58, .pur (.iaddr 3), [.t 57, .k (.i (1))], none⟩,
    ⟨some 59, .pur (.faddr 2), [.t 58], none⟩,
    ⟨some 60, .ld none 1 false, [.t 59], none⟩,
    ⟨some 61, .append 3 48, [.t 55, .t 60], none⟩,
    ⟨some 11, .pur .mov, [.t 61], none⟩]) <|
  .seq (.ops [
    ⟨some 62, .pur .mov, [.t 11], none⟩,
    ⟨some 63, .pur .mov, [.t 2], none⟩,
    ⟨some 64, .pur (.bin .and), [.t 63, .k (.i (65535))], none⟩,
    ⟨some 65, .pur (.bin .rem), [.t 64, .k (.i (6))], none⟩,
    ⟨some 66, .ld (some 7) 3 true, [.t 7], none⟩,
    ⟨some 67, .pur (.iaddr 3), [.t 62, .t 65], none⟩,
    ⟨none, .st none 3, [.t 67, .t 66], none⟩]) <|
  .seq (.ops [
    ⟨some 68, .pur (.faddr 2), [.t 10], none⟩,
    ⟨some 69, .ld (some 10) 1 false, [.t 68], none⟩,
    ⟨some 70, .pur (.iaddr 3), [.t 69, .k (.i (0))], none⟩,
    ⟨some 71, .ld none 3 true, [.t 70], none⟩,
    ⟨some 72, .pur .mov, [.t 11], none⟩,
    ⟨some 73, .pur (.build [.i (0), .s ⟨#[]⟩, .lst 0 true []] [(0, 1), (2, 1)]), [.k (.i (3)), .t 72], none⟩,
    ⟨some 74, .pur (.buildSl 3 2 [.i (0), .s ⟨#[]⟩, .lst 0 true []] [0, 1]), [.t 71, .t 73], none⟩,
    ⟨some 75, .pur (.build [.i (0), .s ⟨#[]⟩, .lst 0 true []] [(0, 1), (2, 1)]), [.k (.i (4)), .t 74], none⟩,
    ⟨some 12, .alloc .reg [.i (0), .s ⟨#[]⟩, .lst 0 true []], [], none⟩,
    ⟨none, .st (some 12) 3, [.t 12, .t 75], none⟩]) <|
  .seq (.ops [
    ⟨some 77, .ld (some 4) 3 true, [.t 4], none⟩,
    ⟨some 78, .ld (some 12) 3 true, [.t 12], none⟩,
    ⟨some 79, .call 112, [.t 77, .t 78, .k (.i (-9223372036854775808))], none⟩,
    ⟨some 76, .pur .mov, [.t 79], none⟩,
    ⟨some 80, .pur (.extract 0), [.t 76], none⟩,
    ⟨some 81, .pur (.extract 1), [.t 76], none⟩,
    ⟨some 13, .alloc .reg [.s ⟨#[]⟩, .s ⟨#[]⟩, .lst 0 true [], .i (0), .s ⟨#[]⟩, .lst 0 true [], .i (0)], [], none⟩,
    ⟨none, .st (some 13) 7, [.t 13, .t 80], none⟩,
    ⟨some 14, .pur .mov, [.t 81], none⟩]) <|
  .seq (.seq (.ops [
    ⟨some 82, .pur .mov, [.t 14], none⟩,
    ⟨some 83, .pur (.bin .neq), [.t 82, .k (.i (0))], none⟩]) <|
  .cond (.t 83) (.seq (.ops [
      ⟨some 84, .pur .mov, [.t 9], none⟩,
      ⟨some 85, .pur .mov, [.t 84], none⟩,
      ⟨some 86, .pur .mov, [.t 14], some (85, true)⟩,
      ⟨some 87, .pur (.bin .eql), [.t 86, .k (.i (2))], some (85, true)⟩,
      ⟨some 88, .pur .pick, [.t 85, .t 87, .k (.b false)], none⟩,
      ⟨some 89, .pur .mov, [.t 88], none⟩,
      ⟨some 90, .pur (.faddr 0), [.t 13], some (89, true)⟩,
      ⟨some 91, .ld (some 13) 1 false, [.t 90], some (89, true)⟩,
      ⟨some 92, .pur (.bin .eql), [.t 91, .k (.s ⟨#[]⟩)], some (89, true)⟩,
      ⟨some 93, .pur .pick, [.t 89, .t 92, .k (.b false)], none⟩,
      ⟨some 8, .pur .mov, [.t 93], none⟩]) <|
    .ret) (.skip)) <|
  .seq (.ops [
    ⟨some 94, .pur .mov, [.t 9], none⟩,
    ⟨some 95, .pur .mov, [.t 94], none⟩,
    ⟨some 96, .ld (some 4) 3 true, [.t 4], some (95, true)⟩,
    ⟨some 97, .ld (some 13) 7 true, [.t 13], some (95, true)⟩,
    ⟨some 98, .call 109, [.t 96, .t 97], some (95, true)⟩,
    ⟨some 99, .ld (some 12) 3 true, [.t 12], some (95, true)⟩,
    ⟨some 100, .call 118, [.t 98, .t 99], some (95, true)⟩,
    ⟨some 101, .pur .pick, [.t 95, .t 100, .k (.b false)], none⟩,
    ⟨some 8, .pur .mov, [.t 101], none⟩]) <|
  .ret
def f20 : AFunc := ⟨102, f20b, [.tmp 8]⟩
/- 21 sluiceway/sluicewaylaw14.CookieUnlike -/
def f21b : ACode :=
  .seq (.ops [
    ⟨some 4, .box .reg, [.t 0], none⟩,
    ⟨some 5, .box .reg, [.t 1], none⟩,
    ⟨some 6, .box .reg, [.t 2], none⟩,
    ⟨some 7, .box .reg, [.t 3], none⟩,
    ⟨some 8, .pur .mov, [.k (.b false)], none⟩]) <|
  .seq (.ops [
    ⟨some 13, .call 107, [], none⟩,
    ⟨some 9, .pur .mov, [.t 13], none⟩]) <|
  .seq (.ops [
    ⟨some 14, .ld (some 4) 7 true, [.t 4], none⟩,
    ⟨some 15, .call 110, [.t 14], none⟩,
    ⟨none, .st (some 4) 7, [.t 4, .t 15], none⟩]) <|
  .seq (.ops [
    ⟨some 16, .ld (some 5) 7 true, [.t 5], none⟩,
    ⟨some 17, .call 110, [.t 16], none⟩,
    ⟨none, .st (some 5) 7, [.t 5, .t 17], none⟩]) <|
  .seq (.seq (.ops [
    ⟨some 18, .ld (some 6) 3 true, [.t 6], none⟩,
    ⟨some 19, .call 108, [.t 18], none⟩,
    ⟨some 20, .pur (.un .not), [.t 19], none⟩,
    ⟨some 21, .pur .mov, [.t 20], none⟩,
    ⟨some 22, .ld (some 7) 3 true, [.t 7], some (21, false)⟩,
    ⟨some 23, .call 108, [.t 22], some (21, false)⟩,
    ⟨some 24, .pur (.un .not), [.t 23], some (21, false)⟩,
    ⟨some 25, .pur .pick, [.t 21, .k (.b true), .t 24], none⟩,
    ⟨some 26, .pur .mov, [.t 25], none⟩,
    ⟨some 27, .pur (.faddr 3), [.t 4], some (26, false)⟩,
    ⟨some 28, .ld (some 4) 3 true, [.t 27], some (26, false)⟩,
    ⟨some 29, .call 108, [.t 28], some (26, false)⟩,
    ⟨some 30, .pur (.un .not), [.t 29], some (26, false)⟩,
    ⟨some 31, .pur .pick, [.t 26, .k (.b true), .t 30], none⟩,
    ⟨some 32, .pur .mov, [.t 31], none⟩,
    ⟨some 33, .pur (.faddr 3), [.t 5], some (32, false)⟩,
    ⟨some 34, .ld (some 5) 3 true, [.t 33], some (32, false)⟩,
    ⟨some 35, .call 108, [.t 34], some (32, false)⟩,
    ⟨some 36, .pur (.un .not), [.t 35], some (32, false)⟩,
    ⟨some 37, .pur .pick, [.t 32, .k (.b true), .t 36], none⟩]) <|
  .cond (.t 37) (.seq (.ops [
      ⟨some 38, .pur .mov, [.t 9], none⟩,
      ⟨some 8, .pur .mov, [.t 38], none⟩]) <|
    .ret) (.skip)) <|
  .seq (.ops [
    ⟨some 39, .ld (some 6) 3 true, [.t 6], none⟩,
    ⟨some 40, .ld (some 4) 7 true, [.t 4], none⟩,
    ⟨some 41, .call 109, [.t 39, .t 40], none⟩,
    ⟨some 10, .alloc .reg [.i (0), .s ⟨#[]⟩, .lst 0 true []], [], none⟩,
    ⟨none, .st (some 10) 3, [.t 10, .t 41], none⟩]) <|
  .seq (.ops [
    ⟨some 42, .ld (some 7) 3 true, [.t 7], none⟩,
    ⟨some 43, .ld (some 5) 7 true, [.t 5], none⟩,
    ⟨some 44, .call 109, [.t 42, .t 43], none⟩,
    ⟨some 11, .alloc .reg [.i (0), .s ⟨#[]⟩, .lst 0 true []], [], none⟩,
    ⟨none, .st (some 11) 3, [.t 11, .t 44], none⟩]) <|
  .seq (.seq (.ops [
    ⟨some 45, .pur (.faddr 0), [.t 10], none⟩,
    ⟨some 46, .ld (some 10) 1 false, [.t 45], none⟩,
    ⟨some 47, .pur (.bin .eql), [.t 46, .k (.i (0))], none⟩,
    ⟨some 48, .pur .mov, [.t 47], none⟩,
    ⟨some 49, .pur (.faddr 0), [.t 11], some (48, false)⟩,
    ⟨some 50, .ld (some 11) 1 false, [.t 49], some (48, false)⟩,
    ⟨some 51, .pur (.bin .eql), [.t 50, .k (.i (0))], some (48, false)⟩,
    ⟨some 52, .pur .pick, [.t 48, .k (.b true), .t 51], none⟩]) <|
  .cond (.t 52) (.seq (.ops [
      ⟨some 53, .pur .mov, [.t 9], none⟩,
      ⟨some 54, .pur .mov, [.t 53], none⟩,
      ⟨some 55, .pur (.faddr 0), [.t 10], some (54, true)⟩,
      ⟨some 56, .ld (some 10) 1 false, [.t 55], some (54, true)⟩,
      ⟨some 57, .pur (.bin .eql), [.t 56, .k (.i (0))], some (54, true)⟩,
      ⟨some 58, .pur .mov, [.t 57], some (54, true)⟩,
      ⟨some 59, .ld (some 10) 3 true, [.t 10], some (58, false)⟩,
      ⟨some 60, .ld (some 11) 3 true, [.t 11], some (58, false)⟩,
      ⟨some 61, .call 118, [.t 59, .t 60], some (58, false)⟩,
      ⟨some 62, .pur (.un .not), [.t 61], some (58, false)⟩,
      ⟨some 63, .pur .pick, [.t 58, .k (.b true), .t 62], some (54, true)⟩,
      ⟨some 64, .pur .pick, [.t 54, .t 63, .k (.b false)], none⟩,
      ⟨some 8, .pur .mov, [.t 64], none⟩]) <|
    .ret) (.skip)) <|
  .seq (.ops [
    ⟨some 65, .ld (some 4) 7 true, [.t 4], none⟩,
    ⟨some 66, .ld (some 5) 7 true, [.t 5], none⟩,
    ⟨some 67, .call 115, [.t 65, .t 66], none⟩,
    ⟨some 68, .pur .mov, [.t 67], none⟩,
    ⟨some 69, .ld (some 6) 3 true, [.t 6], some (68, true)⟩,
    ⟨some 70, .ld (some 7) 3 true, [.t 7], some (68, true)⟩,
    ⟨some 71, .call 118, [.t 69, .t 70], some (68, true)⟩,
    ⟨some 72, .pur .pick, [.t 68, .t 71, .k (.b false)], none⟩,
    ⟨some 12, .pur .mov, [.t 72], none⟩]) <|
  .seq (.ops [
    ⟨some 73, .pur .mov, [.t 9], none⟩,
    ⟨some 74, .pur .mov, [.t 73], none⟩,
    ⟨some 75, .ld (some 10) 3 true, [.t 10], some (74, true)⟩,
    ⟨some 76, .ld (some 11) 3 true, [.t 11], some (74, true)⟩,
    ⟨some 77, .call 118, [.t 75, .t 76], some (74, true)⟩,
    ⟨some 78, .pur .mov, [.t 12], some (74, true)⟩,
    ⟨some 79, .pur (.eqB false), [.t 77, .t 78], some (74, true)⟩,
    ⟨some 80, .pur .pick, [.t 74, .t 79, .k (.b false)], none⟩,
    ⟨some 81, .pur .mov, [.t 80], none⟩,
    ⟨some 82, .ld (some 10) 3 true, [.t 10], some (81, true)⟩,
    ⟨some 83, .call 121, [.t 82], some (81, true)⟩,
    ⟨some 84, .ld (some 11) 3 true, [.t 11], some (81, true)⟩,
    ⟨some 85, .call 121, [.t 84], some (81, true)⟩,
    ⟨some 86, .pur (.bin .eql), [.t 83, .t 85], some (81, true)⟩,
    ⟨some 87, .pur .mov, [.t 12], some (81, true)⟩,
    ⟨some 88, .pur (.eqB false), [.t 86, .t 87], some (81, true)⟩,
    ⟨some 89, .pur .pick, [.t 81, .t 88, .k (.b false)], none⟩,
    ⟨some 8, .pur .mov, [.t 89], none⟩]) <|
  .ret
def f21 : AFunc := ⟨90, f21b, [.tmp 8]⟩
/- 22 sluiceway/sluicewaylaw14.CookieEnds -/
def f22b : ACode :=
  .seq (.ops [
    ⟨some 4, .box .reg, [.t 0], none⟩,
    ⟨some 5, .box .reg, [.t 1], none⟩,
    ⟨some 8, .pur .mov, [.k (.b false)], none⟩]) <|
  .seq (.ops [
    ⟨some 17, .call 107, [], none⟩,
    ⟨some 9, .pur .mov, [.t 17], none⟩]) <|
  .seq (.ops [
    ⟨some 18, .ld (some 5) 7 true, [.t 5], none⟩,
    ⟨some 19, .call 110, [.t 18], none⟩,
    ⟨none, .st (some 5) 7, [.t 5, .t 19], none⟩]) <|
  .seq (.seq (.ops [
    ⟨some 20, .ld (some 4) 3 true, [.t 4], none⟩,
    ⟨some 21, .call 108, [.t 20], none⟩,
    ⟨some 22, .pur (.un .not), [.t 21], none⟩,
    ⟨some 23, .pur .mov, [.t 22], none⟩,
    ⟨some 24, .pur (.faddr 3), [.t 5], some (23, false)⟩,
    ⟨some 25, .ld (some 5) 3 true, [.t 24], some (23, false)⟩,
    ⟨some 26, .call 108, [.t 25], some (23, false)⟩,
    ⟨some 27, .pur (.un .not), [.t 26], some (23, false)⟩,
    ⟨some 28, .pur .pick, [.t 23, .k (.b true), .t 27], none⟩]) <|
  .cond (.t 28) (.seq (.ops [
      ⟨some 29, .pur .mov, [.t 9], none⟩,
      ⟨some 8, .pur .mov, [.t 29], none⟩]) <|
    .ret) (.skip)) <|
  .seq (.ops [
    ⟨some 30, .ld (some 4) 3 true, [.t 4], none⟩,
    ⟨some 31, .ld (some 5) 7 true, [.t 5], none⟩,
    ⟨some 32, .call 109, [.t 30, .t 31], none⟩,
    ⟨some 10, .alloc .reg [.i (0), .s ⟨#[]⟩, .lst 0 true []], [], none⟩,
    ⟨none, .st (some 10) 3, [.t 10, .t 32], none⟩]) <|
  .seq (.seq (.ops [
    ⟨some 33, .pur (.faddr 0), [.t 10], none⟩,
    ⟨some 34, .ld (some 10) 1 false, [.t 33], none⟩,
    ⟨some 35, .pur (.bin .eql), [.t 34, .k (.i (0))], none⟩]) <|
  .cond (.t 35) (.seq (.ops [
      ⟨some 36, .pur .mov, [.t 9], none⟩,
      ⟨some 8, .pur .mov, [.t 36], none⟩]) <|
    .ret) (.skip)) <|
  .seq (.seq (.ops [
    ⟨some 37, .pur .mov, [.t 3], none⟩,
    ⟨some 38, .pur .mov, [.t 2], none⟩,
    ⟨some 39, .pur (.bin .lss), [.t 37, .t 38], none⟩]) <|
  .cond (.t 39) (.ops [
      ⟨some 40, .pur .mov, [.t 3], none⟩,
      ⟨some 41, .pur .mov, [.t 2], none⟩,
      ⟨some 2, .pur .mov, [.t 40], none⟩,
      ⟨some 3, .pur .mov, [.t 41], none⟩]) (.skip)) <|
  .seq (.ops [
    ⟨some 43, .ld (some 4) 3 true, [.t 4], none⟩,
    ⟨some 44, .ld (some 10) 3 true, [.t 10], none⟩,
    ⟨some 45, .pur .mov, [.t 2], none⟩,
    ⟨some 46, .call 112, [.t 43, .t 44, .t 45], none⟩,
    ⟨some 42, .pur .mov, [.t 46], none⟩,
    ⟨some 47, .pur (.extract 0), [.t 42], none⟩,
    ⟨some 48, .pur (.extract 1), [.t 42], none⟩,
    ⟨some 11, .alloc .reg [.s ⟨#[]⟩, .s ⟨#[]⟩, .lst 0 true [], .i (0), .s ⟨#[]⟩, .lst 0 true [], .i (0)], [], none⟩,
    ⟨none, .st (some 11) 7, [.t 11, .t 47], none⟩,
    ⟨some 12, .pur .mov, [.t 48], none⟩]) <|
  .seq (.ops [
    ⟨some 50, .ld (some 4) 3 true, [.t 4], none⟩,
    ⟨some 51, .ld (some 10) 3 true, [.t 10], none⟩,
    ⟨some 52, .pur .mov, [.t 3], none⟩,
    ⟨some 53, .call 112, [.t 50, .t 51, .t 52], none⟩,
    ⟨some 49, .pur .mov, [.t 53], none⟩,
    ⟨some 54, .pur (.extract 0), [.t 49], none⟩,
    ⟨some 55, .pur (.extract 1), [.t 49], none⟩,
    ⟨some 13, .alloc .reg [.s ⟨#[]⟩, .s ⟨#[]⟩, .lst 0 true [], .i (0), .s ⟨#[]⟩, .lst 0 true [], .i (0)], [], none⟩,
    ⟨none, .st (some 13) 7, [.t 13, .t 54], none⟩,
    ⟨some 14, .pur .mov, [.t 55], none⟩]) <|
  .seq (.ops [
    ⟨some 57, .ld (some 4) 3 true, [.t 4], none⟩,
    ⟨some 58, .ld (some 10) 3 true, [.t 10], none⟩,
    ⟨some 59, .pur (.faddr 6), [.t 5], none⟩,
    ⟨some 60, .ld (some 5) 1 false, [.t 59], none⟩,
    ⟨some 61, .call 112, [.t 57, .t 58, .t 60], none⟩,
    ⟨some 56, .pur .mov, [.t 61], none⟩,
    ⟨some 62, .pur (.extract 0), [.t 56], none⟩,
    ⟨some 63, .pur (.extract 1), [.t 56], none⟩,
    ⟨some 15, .alloc .reg [.s ⟨#[]⟩, .s ⟨#[]⟩, .lst 0 true [], .i (0), .s ⟨#[]⟩, .lst 0 true [], .i (0)], [], none⟩,
    ⟨none, .st (some 15) 7, [.t 15, .t 62], none⟩,
    ⟨some 16, .pur .mov, [.t 63], none⟩]) <|
  .seq (.ops [
    ⟨some 64, .pur .mov, [.t 9], none⟩,
    ⟨some 65, .pur .mov, [.t 64], none⟩,
    ⟨some 66, .pur .mov, [.t 12], some (65, true)⟩,
    ⟨some 67, .pur (.bin .eql), [.t 66, .k (.i (0))], some (65, true)⟩,
    ⟨some 68, .pur .mov, [.t 2], some (65, true)⟩,
    ⟨some 69, .pur (.faddr 6), [.t 5], some (65, true)⟩,
    ⟨some 70, .ld (some 5) 1 false, [.t 69], some (65, true)⟩,
    ⟨some 71, .pur (.bin .leq), [.t 68, .t 70], some (65, true)⟩,
    ⟨some 72, .pur (.eqB false), [.t 67, .t 71], some (65, true)⟩,
    ⟨some 73, .pur .pick, [.t 65, .t 72, .k (.b false)], none⟩,
    ⟨some 74, .pur .mov, [.t 73], none⟩,
    ⟨some 75, .pur .mov, [.t 14], some (74, true)⟩,
    ⟨some 76, .pur (.bin .eql), [.t 75, .k (.i (0))], some (74, true)⟩,
    ⟨some 77, .pur .mov, [.t 3], some (74, true)⟩,
    ⟨some 78, .pur (.faddr 6), [.t 5], some (74, true)⟩,
    ⟨some 79, .ld (some 5) 1 false, [.t 78], some (74, true)⟩,
    ⟨some 80, .pur (.bin .leq), [.t 77, .t 79], some (74, true)⟩,
    ⟨some 81, .pur (.eqB false), [.t 76, .t 80], some (74, true)⟩,
    ⟨some 82, .pur .pick, [.t 74, .t 81, .k (.b false)], none⟩,
    ⟨some 83, .pur .mov, [.t 82], none⟩,
    ⟨some 84, .pur .mov, [.t 14], some (83, true)⟩,
    ⟨some 85, .pur (.bin .neq), [.t 84, .k (.i (0))], some (83, true)⟩,
    ⟨some 86, .pur .mov, [.t 85], some (83, true)⟩,
    ⟨some 87, .pur .mov, [.t 12], some (86, false)⟩,
    ⟨some 88, .pur (.bin .eql), [.t 87, .k (.i (0))], some (86, false)⟩,
    ⟨some 89, .pur .pick, [.t 86, .k (.b true), .t 88], some (83, true)⟩,
    ⟨some 90, .pur .pick, [.t 83, .t 89, .k (.b false)], none⟩,
    ⟨some 91, .pur .mov, [.t 90], none⟩,
    ⟨some 92, .pur .mov, [.t 16], some (91, true)⟩,
    ⟨some 93, .pur (.bin .eql), [.t 92, .k (.i (0))], some (91, true)⟩,
    ⟨some 94, .pur .pick, [.t 91, .t 93, .k (.b false)], none⟩,
    ⟨some 8, .pur .mov, [.t 94], none⟩]) <|
  .ret
def f22 : AFunc := ⟨95, f22b, [.tmp 8]⟩
/- 23 sluiceway/sluicewaylaw14.CookieDone -/
def f23_l0 : ACode :=
  .seq (.seq (.ops [
    ⟨some 108, .pur .mov, [.t 17], none⟩,
    ⟨some 109, .pur .mov, [.t 11], none⟩,
    ⟨some 110, .pur (.bin .lss), [.t 108, .t 109], none⟩]) <|
  .cond (.t 110) (.skip) (.exit 2)) <|
  .seq (.block 3 (.seq (.ops [
      ⟨some 113, .pur (.faddr 2), [.t 15], none⟩,
      ⟨some 114, .ld (some 15) 1 false, [.t 113], none⟩,
      ⟨some 115, .pur .mov, [.t 17], none⟩,
      ⟨some 116, .pur (.iaddr 1), [.t 114, .t 115], none⟩,
      ⟨some 117, .ld none 1 false, [.t 116], none⟩,
      ⟨some 118, .pur .mov, [.t 0], none⟩,
      ⟨some 119, .pur .mov, [.t 17], none⟩,
      ⟨some 120, .pur (.iaddr 1), [.t 118, .t 119], none⟩,
      ⟨some 121, .ld none 1 false, [.t 120], none⟩,
      ⟨some 122, .pur (.bin .neq), [.t 117, .t 121], none⟩]) <|
    .cond (.t 122) (.seq (.ops [
        ⟨some 6, .pur .mov, [.k (.b false)], none⟩]) <|
      .ret) (.skip))) <|
  .ops [
    ⟨some 111, .pur .mov, [.t 17], none⟩,
    ⟨some 112, .pur (.bin .add), [.t 111, .k (.i (1))], none⟩,
    ⟨some 17, .pur .mov, [.t 112], none⟩]

def f23_l1 : ACode :=
  .seq (.seq (.ops [
    ⟨some 35, .pur .mov, [.t 12], none⟩,
    ⟨some 36, .pur .mov, [.t 11], none⟩,
    ⟨some 37, .pur (.bin .lss), [.t 35, .t 36], none⟩]) <|
  .cond (.t 37) (.skip) (.exit 0)) <|
  .seq (.block 1 (.seq (.ops [
      ⟨some 41, .ld (some 8) 3 true, [.t 8], none⟩,
      ⟨some 42, .ld (some 10) 3 true, [.t 10], none⟩,
      ⟨some 43, .pur .mov, [.t 2], none⟩,
      ⟨some 44, .call 1112, [.t 41, .t 42, .t 43], none⟩,
      ⟨some 40, .pur .mov, [.t 44], none⟩,
      ⟨some 45, .pur (.extract 0), [.t 40], none⟩,
      ⟨some 46, .pur (.extract 1), [.t 40], none⟩,
      ⟨some 13, .alloc .reg [.s ⟨#[]⟩, .s ⟨#[]⟩, .lst 0 true [], .i (0), .s ⟨#[]⟩, .lst 0 true [], .i (0)], [], none⟩,
      ⟨none, .st (some 13) 7, [.t 13, .t 45], none⟩,
      ⟨some 14, .pur .mov, [.t 46], none⟩]) <|
    .seq (.seq (.ops [
      ⟨some 47, .pur .mov, [.t 14], none⟩,
      ⟨some 48, .pur (.bin .neq), [.t 47, .k (.i (0))], none⟩,
      ⟨some 49, .pur .mov, [.t 48], none⟩,
      ⟨some 50, .pur (.faddr 2), [.t 13], some (49, false)⟩,
      ⟨some 51, .ld (some 13) 1 false, [.t 50], some (49, false)⟩,
      ⟨some 52, .pur .lenL, [.t 51], some (49, false)⟩,
      ⟨some 53, .pur .mov, [.t 12], some (49, false)⟩,
      ⟨some 54, .pur (.bin .neq), [.t 52, .t 53], some (49, false)⟩,
      ⟨some 55, .pur .pick, [.t 49, .k (.b true), .t 54], none⟩]) <|
    .cond (.t 55) (.seq (.ops [
        ⟨some 6, .pur .mov, [.k (.b false)], none⟩]) <|
      .ret) (.skip)) <|
    .seq (.ops [
      ⟨some 56, .pur (.faddr 2), [.t 13], none⟩,
      ⟨some 57, .ld (some 13) 1 false, [.t 56], none⟩,
      ⟨some 58, .pur .mov, [.t 0], none⟩,
      ⟨some 59, .pur .mov, [.t 12], none⟩,
      ⟨some 60, .pur (.iaddr 1), [.t 58, .t 59], none⟩,
      ⟨some 61, .ld none 1 false, [.t 60], none⟩,
      ⟨some 62, .pur (.buildSl 1 1 [.s ⟨#[]⟩] [0]), [.t 61], none⟩,
      ⟨some 63, .append 1 16, [.t 57, .t 62], none⟩,
      ⟨some 64, .pur (.faddr 2), [.t 13], none⟩,
      ⟨none, .st (some 13) 1, [.t 64, .t 63], none⟩]) <|
    .ops [
      ⟨some 65, .ld (some 8) 3 true, [.t 8], none⟩,
      ⟨some 66, .ld (some 13) 7 true, [.t 13], none⟩,
      ⟨some 67, .call 109, [.t 65, .t 66], none⟩,
      ⟨none, .st (some 10) 3, [.t 10, .t 67], none⟩])) <|
  .ops [
    ⟨some 38, .pur .mov, [.t 12], none⟩,
    ⟨some 39, .pur (.bin .add), [.t 38, .k (.i (1))], none⟩,
    ⟨some 12, .pur .mov, [.t 39], none⟩]
def f23b : ACode :=
  .seq (.ops [
    ⟨some 6, .pur .mov, [.k (.b false)], none⟩]) <|
  .seq (.ops [
    ⟨some 18, .call 107, [], none⟩,
    ⟨some 7, .pur .mov, [.t 18], none⟩]) <|
  .seq (.ops [
    ⟨some 19, .pur .mov, [.t 1], none⟩,
    ⟨some 20, .pur .mov, [.t 1], none⟩,
    ⟨some 21, .pur .lenS, [.t 20], none⟩,
    ⟨some 22, .pur .min, [.t 21, .k (.i (20))], none⟩,
    ⟨some 23, .pur (.sliceS false true), [.t 19, .t 22], none⟩,
    ⟨some 24, .pur (.bin .add), [.k (.s ⟨#[107, 101, 121]⟩), .t 23], none⟩,
    ⟨some 25, .call 122, [.t 24], none⟩,
    ⟨some 8, .alloc .reg [.i (0), .s ⟨#[]⟩, .lst 0 true []], [], none⟩,
    ⟨none, .st (some 8) 3, [.t 8, .t 25], none⟩]) <|
  .seq (.ops [
    ⟨some 26, .call 122, [.k (.s ⟨#[115]⟩)], none⟩,
    ⟨some 27, .pur .mov, [.t 2], none⟩,
    ⟨some 28, .pur (.build [.s ⟨#[]⟩, .s ⟨#[]⟩, .lst 0 true [], .i (0), .s ⟨#[]⟩, .lst 0 true [], .i (0)] [(0, 1), (1, 1), (3, 3), (6, 1)]), [.k (.s ⟨#[97]⟩), .k (.s ⟨#[110]⟩), .t 26, .t 27], none⟩,
    ⟨some 9, .alloc .reg [.s ⟨#[]⟩, .s ⟨#[]⟩, .lst 0 true [], .i (0), .s ⟨#[]⟩, .lst 0 true [], .i (0)], [], none⟩,
    ⟨none, .st (some 9) 7, [.t 9, .t 28], none⟩]) <|
  .seq (.ops [
    ⟨some 29, .ld (some 8) 3 true, [.t 8], none⟩,
    ⟨some 30, .ld (some 9) 7 true, [.t 9], none⟩,
    ⟨some 31, .call 109, [.t 29, .t 30], none⟩,
    ⟨some 10, .alloc .reg [.i (0), .s ⟨#[]⟩, .lst 0 true []], [], none⟩,
    ⟨none, .st (some 10) 3, [.t 10, .t 31], none⟩]) <|
  .seq (.ops [
    ⟨some 32, .pur .mov, [.t 0], none⟩,
    ⟨some 33, .pur .lenL, [.t 32], none⟩,
    ⟨some 34, .pur .min, [.t 33, .k (.i (15))], none⟩,
    ⟨some 11, .pur .mov, [.t 34], none⟩]) <|
  .seq (.seq (.ops [
    ⟨some 12, .pur .mov, [.k (.i (0))], none⟩]) <|
  .block 0 (.loop [6, 13, 14, 35, 36, 37, 38, 39, 40, 41, 42, 43, 44, 45, 46, 47, 48, 49, 50, 51, 52, 53, 54, 55, 56, 57, 58, 59, 60, 61, 62, 63, 64, 65, 66, 67] [13] f23_l1)) <|
  .seq (.ops [
    ⟨some 69, .ld (some 8) 3 true, [.t 8], none⟩,
    ⟨some 70, .ld (some 10) 3 true, [.t 10], none⟩,
    ⟨some 71, .pur .mov, [.t 2], none⟩,
    ⟨some 72, .call 1112, [.t 69, .t 70, .t 71], none⟩,
    ⟨some 68, .pur .mov, [.t 72], none⟩,
    ⟨some 73, .pur (.extract 0), [.t 68], none⟩,
    ⟨some 74, .pur (.extract 1), [.t 68], none⟩,
    ⟨some 15, .alloc .reg [.s ⟨#[]⟩, .s ⟨#[]⟩, .lst 0 true [], .i (0), .s ⟨#[]⟩, .lst 0 true [], .i (0)], [], none⟩,
    ⟨none, .st (some 15) 7, [.t 15, .t 73], none⟩,
    ⟨some 16, .pur .mov, [.t 74], none⟩]) <|
  .seq (.seq (.ops [
    ⟨some 75, .pur .mov, [.t 16], none⟩,
    ⟨some 76, .pur (.bin .neq), [.t 75, .k (.i (0))], none⟩,
    ⟨some 77, .pur .mov, [.t 76], none⟩,
    ⟨some 78, .pur (.faddr 2), [.t 15], some (77, false)⟩,
    ⟨some 79, .ld (some 15) 1 false, [.t 78], some (77, false)⟩,
    ⟨some 80, .pur .lenL, [.t 79], some (77, false)⟩,
    ⟨some 81, .pur .mov, [.t 11], some (77, false)⟩,
    ⟨some 82, .pur (.bin .neq), [.t 80, .t 81], some (77, false)⟩,
    ⟨some 83, .pur .pick, [.t 77, .k (.b true), .t 82], none⟩,
    ⟨some 84, .pur .mov, [.t 83], none⟩,
    ⟨some 85, .pur (.faddr 0), [.t 15], some (84, false)⟩,
    ⟨some 86, .ld (some 15) 1 false, [.t 85], some (84, false)⟩,
    ⟨some 87, .pur (.bin .neq), [.t 86, .k (.s ⟨#[97]⟩)], some (84, false)⟩,
    ⟨some 88, .pur .pick, [.t 84, .k (.b true), .t 87], none⟩,
    ⟨some 89, .pur .mov, [.t 88], none⟩,
    ⟨some 90, .pur (.faddr 1), [.t 15], some (89, false)⟩,
    ⟨some 91, .ld (some 15) 1 false, [.t 90], some (89, false)⟩,
    ⟨some 92, .pur (.bin .neq), [.t 91, .k (.s ⟨#[110]⟩)], some (89, false)⟩,
    ⟨some 93, .pur .pick, [.t 89, .k (.b true), .t 92], none⟩,
    ⟨some 94, .pur .mov, [.t 93], none⟩,
    ⟨some 95, .pur (.faddr 6), [.t 15], some (94, false)⟩,
    ⟨some 96, .ld (some 15) 1 false, [.t 95], some (94, false)⟩,
    ⟨some 97, .pur .mov, [.t 2], some (94, false)⟩,
    ⟨some 98, .pur (.bin .neq), [.t 96, .t 97], some (94, false)⟩,
    ⟨some 99, .pur .pick, [.t 94, .k (.b true), .t 98], none⟩,
    ⟨some 100, .pur .mov, [.t 99], none⟩,
    ⟨some 101, .pur (.faddr 3), [.t 15], some (100, false)⟩,
    ⟨some 102, .ld (some 15) 3 true, [.t 101], some (100, false)⟩,
    ⟨some 103, .pur (.faddr 3), [.t 9], some (100, false)⟩,
    ⟨some 104, .ld (some 9) 3 true, [.t 103], some (100, false)⟩,
    ⟨some 105, .call 118, [.t 102, .t 104], some (100, false)⟩,
    ⟨some 106, .pur (.un .not), [.t 105], some (100, false)⟩,
    ⟨some 107, .pur .pick, [.t 100, .k (.b true), .t 106], none⟩]) <|
  .cond (.t 107) (.seq (.ops [
      ⟨some 6, .pur .mov, [.k (.b false)], none⟩]) <|
    .ret) (.skip)) <|
  .seq (.seq (.ops [
    ⟨some 17, .pur .mov, [.k (.i (0))], none⟩]) <|
  .block 2 (.loop [6, 108, 109, 110, 111, 112, 113, 114, 115, 116, 117, 118, 119, 120, 121, 122] [] f23_l0)) <|
  .seq (.ops [
    ⟨some 123, .pur .mov, [.t 7], none⟩,
    ⟨some 6, .pur .mov, [.t 123], none⟩]) <|
  .ret
def f23 : AFunc := ⟨124, f23b, [.tmp 6]⟩
/- 24 sluiceway/sluicewaylaw14.CookieOthers -/
def f24_l0 : ACode :=
  .seq (.seq (.ops [
    ⟨some 57, .pur .mov, [.t 10], none⟩,
    ⟨some 58, .pur .mov, [.t 9], none⟩,
    ⟨some 59, .pur .lenL, [.t 58], none⟩,
    ⟨some 60, .pur (.bin .lss), [.t 57, .t 59], none⟩]) <|
  .cond (.t 60) (.skip) (.exit 0)) <|
  .seq (.block 1 (.seq (.ops [
      ⟨some 64, .ld (some 6) 3 true, [.t 6], none⟩,
      ⟨some 65, .pur .mov, [.t 9], none⟩,
      ⟨some 66, .pur .mov, [.t 10], none⟩,
      ⟨some 67, .pur (.iaddr 3), [.t 65, .t 66], none⟩,
      ⟨some 68, .ld none 3 true, [.t 67], none⟩,
      ⟨some 69, .pur (.faddr 6), [.t 2], none⟩,
      ⟨some 70, .ld (some 2) 1 false, [.t 69], none⟩,
      ⟨some 71, .call 112, [.t 64, .t 68, .t 70], none⟩,
      ⟨some 63, .pur .mov, [.t 71], none⟩,
      ⟨some 72, .pur (.extract 0), [.t 63], none⟩,
      ⟨some 73, .pur (.extract 1), [.t 63], none⟩,
      ⟨some 11, .alloc .reg [.s ⟨#[]⟩, .s ⟨#[]⟩, .lst 0 true [], .i (0), .s ⟨#[]⟩, .lst 0 true [], .i (0)], [], none⟩,
      ⟨none, .st (some 11) 7, [.t 11, .t 72], none⟩,
      ⟨some 12, .pur .mov, [.t 73], none⟩]) <|
    .seq (.ops [
      ⟨some 74, .pur .mov, [.t 12], none⟩,
      ⟨some 75, .pur (.bin .neq), [.t 74, .k (.i (2))], none⟩,
      ⟨some 76, .pur .mov, [.t 75], none⟩,
      ⟨some 77, .pur (.faddr 0), [.t 11], some (76, false)⟩,
      ⟨some 78, .ld (some 11) 1 false, [.t 77], some (76, false)⟩,
      ⟨some 79, .pur (.bin .neq), [.t 78, .k (.s ⟨#[]⟩)], some (76, false)⟩,
      ⟨some 80, .pur .pick, [.t 76, .k (.b true), .t 79], none⟩]) <|
    .cond (.t 80) (.seq (.ops [
        ⟨some 4, .pur .mov, [.k (.b false)], none⟩]) <|
      .ret) (.skip))) <|
  .ops [
    ⟨some 61, .pur .mov, [.t 10], none⟩,
    ⟨some 62, .pur (.bin .add), [.t 61, .k (.i (1))], none⟩,
    ⟨some 10, .pur .mov, [.t 62], none⟩]
def f24b : ACode :=
  .seq (.ops [
    ⟨some 2, .box .reg, [.t 0], none⟩,
    ⟨some 4, .pur .mov, [.k (.b false)], none⟩]) <|
  .seq (.ops [
    ⟨some 17, .call 107, [], none⟩,
    ⟨some 5, .pur .mov, [.t 17], none⟩]) <|
  .seq (.ops [
    ⟨some 18, .ld (some 2) 7 true, [.t 2], none⟩,
    ⟨some 19, .call 110, [.t 18], none⟩,
    ⟨none, .st (some 2) 7, [.t 2, .t 19], none⟩]) <|
  .seq (.ops [
    ⟨some 20, .pur .mov, [.t 1], none⟩,
    ⟨some 21, .pur .mov, [.t 1], none⟩,
    ⟨some 22, .pur .lenS, [.t 21], none⟩,
    ⟨some 23, .pur .min, [.t 22, .k (.i (20))], none⟩,
    ⟨some 24, .pur (.sliceS false true), [.t 20, .t 23], none⟩,
    ⟨some 25, .pur (.bin .add), [.k (.s ⟨#[107, 101, 121]⟩), .t 24], none⟩,
    ⟨some 26, .call 122, [.t 25], none⟩,
    ⟨some 6, .alloc .reg [.i (0), .s ⟨#[]⟩, .lst 0 true []], [], none⟩,
    ⟨none, .st (some 6) 3, [.t 6, .t 26], none⟩]) <|
  .seq (.ops [
    ⟨some 27, .call 122, [.k (.s ⟨#[115]⟩)], none⟩,
    ⟨some 28, .pur (.faddr 3), [.t 2], none⟩,
    ⟨none, .st (some 2) 3, [.t 28, .t 27], none⟩]) <|
  .seq (.ops [
    ⟨some 29, .ld (some 6) 3 true, [.t 6], none⟩,
    ⟨some 30, .ld (some 2) 7 true, [.t 2], none⟩,
    ⟨some 31, .call 109, [.t 29, .t 30], none⟩,
    ⟨some 7, .alloc .reg [.i (0), .s ⟨#[]⟩, .lst 0 true []], [], none⟩,
    ⟨none, .st (some 7) 3, [.t 7, .t 31], none⟩]) <|
  .seq (.seq (.ops [
    ⟨some 32, .pur (.faddr 2), [.t 7], none⟩,
    ⟨some 33, .ld (some 7) 1 false, [.t 32], none⟩,
    ⟨some 34, .pur .lenL, [.t 33], none⟩,
    ⟨some 35, .pur (.bin .neq), [.t 34, .k (.i (2))], none⟩]) <|
  .cond (.t 35) (.seq (.ops [
      ⟨some 4, .pur .mov, [.k (.b false)], none⟩]) <|
    .ret) (.skip)) <|
  .seq (.ops [
    ⟨some 36, .pur (.faddr 2), [.t 7], none⟩,
    ⟨some 37, .ld (some 7) 1 false, [.t 36], none⟩,
    ⟨some 38, .pur (.iaddr 3), [.t 37, .k (.i (1))], none⟩,
    ⟨some 39, .ld none 3 true, [.t 38], none⟩,
    ⟨some 8, .alloc .reg [.i (0), .s ⟨#[]⟩, .lst 0 true []], [], none⟩,
    ⟨none, .st (some 8) 3, [.t 8, .t 39], none⟩]) <|
  .seq (.ops [
    ⟨some 40, .ld (some 8) 3 true, [.t 8], none⟩,
    ⟨some 41, .ld (some 6) 3 true, [.t 6], none⟩,
    ⟨some 42, .ld (some 8) 3 true, [.t 8], none⟩,
    ⟨some 43, .call 123, [.t 41, .t 42], none⟩,
    ⟨some 44, .ld (some 8) 3 true, [.t 8], none⟩,
    ⟨some 45, .call 124, [.t 44], none⟩,
    ⟨some 46, .ld (some 8) 3 true, [.t 8], none⟩,
    ⟨some 47, .ld (some 6) 3 true, [.t 6], none⟩,
    ⟨some 48, .call 125, [.t 46, .t 47], none⟩,
    ⟨some 49, .ld (some 6) 3 true, [.t 6], none⟩,
    ⟨some 50, .ld (some 8) 3 true, [.t 8], none⟩,
    ⟨some 51, .pur (.buildSl 3 2 [.i (0), .s ⟨#[]⟩, .lst 0 true []] [0, 1]), [.t 49, .t 50], none⟩,
    ⟨some 52, .call 126, [.t 51], none⟩,
    ⟨some 53, .ld (some 6) 3 true, [.t 6], none⟩,
    ⟨some 54, .ld (some 8) 3 true, [.t 8], none⟩,
    ⟨some 55, .call 127, [.t 53, .t 54], none⟩,
    ⟨some 56, .pur (.buildSl 3 6 [.i (0), .s ⟨#[]⟩, .lst 0 true []] [0, 1, 2, 3, 4, 5]), [.t 40, .t 43, .t 45, .t 48, .t 52, .t 55], none⟩,
    ⟨some 9, .pur .mov, [.t 56], none⟩]) <|
  .seq (.seq (.ops [
    ⟨some 10, .pur .mov, [.k (.i (0))], none⟩]) <|
  .block 0 (.loop [4, 11, 12, 57, 58, 59, 60, 61, 62, 63, 64, 65, 66, 67, 68, 69, 70, 71, 72, 73, 74, 75, 76, 77, 78, 79, 80] [11] f24_l0)) <|
  .seq (.ops [
    ⟨some 82, .ld (some 6) 3 true, [.t 6], none⟩,
    ⟨some 83, .ld (some 6) 3 true, [.t 6], none⟩,
    ⟨some 84, .ld (some 7) 3 true, [.t 7], none⟩,
    ⟨some 85, .call 128, [.t 83, .t 84], none⟩,
    ⟨some 86, .pur (.faddr 6), [.t 2], none⟩,
    ⟨some 87, .ld (some 2) 1 false, [.t 86], none⟩,
    ⟨some 88, .call 112, [.t 82, .t 85, .t 87], none⟩,
    ⟨some 81, .pur .mov, [.t 88], none⟩,
    ⟨some 89, .pur (.extract 0), [.t 81], none⟩,
    ⟨some 90, .pur (.extract 1), [.t 81], none⟩,
    ⟨some 13, .alloc .reg [.s ⟨#[]⟩, .s ⟨#[]⟩, .lst 0 true [], .i (0), .s ⟨#[]⟩, .lst 0 true [], .i (0)], [], none⟩,
    ⟨none, .st (some 13) 7, [.t 13, .t 89], none⟩,
    ⟨some 14, .pur .mov, [.t 90], none⟩]) <|
  .seq (.ops [
    ⟨some 92, .ld (some 6) 3 true, [.t 6], none⟩,
    ⟨some 93, .ld (some 6) 3 true, [.t 6], none⟩,
    ⟨some 94, .call 124, [.t 93], none⟩,
    ⟨some 95, .ld (some 7) 3 true, [.t 7], none⟩,
    ⟨some 96, .call 128, [.t 94, .t 95], none⟩,
    ⟨some 97, .pur (.faddr 6), [.t 2], none⟩,
    ⟨some 98, .ld (some 2) 1 false, [.t 97], none⟩,
    ⟨some 99, .call 112, [.t 92, .t 96, .t 98], none⟩,
    ⟨some 91, .pur .mov, [.t 99], none⟩,
    ⟨some 100, .pur (.extract 0), [.t 91], none⟩,
    ⟨some 101, .pur (.extract 1), [.t 91], none⟩,
    ⟨some 15, .alloc .reg [.s ⟨#[]⟩, .s ⟨#[]⟩, .lst 0 true [], .i (0), .s ⟨#[]⟩, .lst 0 true [], .i (0)], [], none⟩,
    ⟨none, .st (some 15) 7, [.t 15, .t 100], none⟩,
    ⟨some 16, .pur .mov, [.t 101], none⟩]) <|
  .seq (.ops [
    ⟨some 102, .pur .mov, [.t 5], none⟩,
    ⟨some 103, .pur .mov, [.t 102], none⟩,
    ⟨some 104, .pur .mov, [.t 14], some (103, true)⟩,
    ⟨some 105, .pur (.bin .eql), [.t 104, .k (.i (2))], some (103, true)⟩,
    ⟨some 106, .pur .pick, [.t 103, .t 105, .k (.b false)], none⟩,
    ⟨some 107, .pur .mov, [.t 106], none⟩,
    ⟨some 108, .pur .mov, [.t 16], some (107, true)⟩,
    ⟨some 109, .pur (.bin .eql), [.t 108, .k (.i (4))], some (107, true)⟩,
    ⟨some 110, .pur .pick, [.t 107, .t 109, .k (.b false)], none⟩,
    ⟨some 4, .pur .mov, [.t 110], none⟩]) <|
  .ret
def f24 : AFunc := ⟨111, f24b, [.tmp 4]⟩
/- 59 sluiceway/sluicewaylaw15.shown -/
def f59b : ACode :=
  .seq (.ops [
    ⟨some 0, .pur .mov, [.k (.b false)], none⟩]) <|
  .seq (.ops [
    ⟨some 9, .call 66, [.k (.i (-3))], none⟩,
    ⟨some 10, .call 87, [.t 9], none⟩,
    ⟨some 8, .pur .mov, [.t 10], none⟩,
    ⟨some 11, .pur (.extract 0), [.t 8], none⟩,
    ⟨some 12, .pur (.extract 1), [.t 8], none⟩,
    ⟨some 1, .pur .mov, [.t 11], none⟩,
    ⟨some 2, .pur .mov, [.t 12], none⟩]) <|
  .seq (.ops [
    ⟨some 14, .call 76, [.k (.s ⟨#[97]⟩), .k (.s ⟨#[98]⟩)], none⟩,
    ⟨some 15, .call 92, [.t 14], none⟩,
    ⟨some 13, .pur .mov, [.t 15], none⟩,
    ⟨some 16, .pur (.extract 0), [.t 13], none⟩,
    ⟨some 17, .pur (.extract 1), [.t 13], none⟩,
    ⟨some 18, .pur (.extract 2), [.t 13], none⟩,
    ⟨some 3, .pur .mov, [.t 16], none⟩,
    ⟨some 4, .pur .mov, [.t 17], none⟩,
    ⟨some 5, .pur .mov, [.t 18], none⟩]) <|
  .seq (.ops [
    ⟨some 20, .call 72, [.k (.i (5))], none⟩,
    ⟨some 21, .call 96, [.t 20], none⟩,
    ⟨some 19, .pur .mov, [.t 21], none⟩,
    ⟨some 22, .pur (.extract 0), [.t 19], none⟩,
    ⟨some 23, .pur (.extract 1), [.t 19], none⟩,
    ⟨some 6, .pur .mov, [.t 22], none⟩,
    ⟨some 7, .pur .mov, [.t 23], none⟩]) <|
  .seq (.ops [
    ⟨some 24, .pur .mov, [.t 1], none⟩,
    ⟨some 25, .pur (.bin .eql), [.t 24, .k (.i (-3))], none⟩,
    ⟨some 26, .pur .mov, [.t 25], none⟩,
    ⟨some 27, .pur .mov, [.t 2], some (26, true)⟩,
    ⟨some 28, .pur .pick, [.t 26, .t 27, .k (.b false)], none⟩,
    ⟨some 29, .pur .mov, [.t 28], none⟩,
    ⟨some 30, .call 66, [.k (.i (-3))], some (29, true)⟩,
    ⟨some 31, .pur (.field 1 1 false), [.t 30], some (29, true)⟩,
    ⟨some 32, .pur (.bin .eql), [.t 31, .k (.s ⟨#[61, 45, 51]⟩)], some (29, true)⟩,
    ⟨some 33, .pur .pick, [.t 29, .t 32, .k (.b false)], none⟩,
    ⟨some 34, .pur .mov, [.t 33], none⟩,
    ⟨some 35, .pur .mov, [.t 3], some (34, true)⟩,
    ⟨some 36, .pur (.bin .eql), [.t 35, .k (.s ⟨#[97]⟩)], some (34, true)⟩,
    ⟨some 37, .pur .pick, [.t 34, .t 36, .k (.b false)], none⟩,
    ⟨some 38, .pur .mov, [.t 37], none⟩,
    ⟨some 39, .pur .mov, [.t 4], some (38, true)⟩,
    ⟨some 40, .pur (.bin .eql), [.t 39, .k (.s ⟨#[98]⟩)], some (38, true)⟩,
    ⟨some 41, .pur .pick, [.t 38, .t 40, .k (.b false)], none⟩,
    ⟨some 42, .pur .mov, [.t 41], none⟩,
    ⟨some 43, .pur .mov, [.t 5], some (42, true)⟩,
    ⟨some 44, .pur .pick, [.t 42, .t 43, .k (.b false)], none⟩,
    ⟨some 45, .pur .mov, [.t 44], none⟩,
    ⟨some 46, .pur .mov, [.t 6], some (45, true)⟩,
    ⟨some 47, .pur (.bin .eql), [.t 46, .k (.i (5))], some (45, true)⟩,
    ⟨some 48, .pur .pick, [.t 45, .t 47, .k (.b false)], none⟩,
    ⟨some 49, .pur .mov, [.t 48], none⟩,
    ⟨some 50, .pur .mov, [.t 7], some (49, true)⟩,
    ⟨some 51, .pur .pick, [.t 49, .t 50, .k (.b false)], none⟩,
    ⟨some 52, .pur .mov, [.t 51], none⟩,
    ⟨some 53, .call 74, [], some (52, true)⟩,
    ⟨some 54, .call 83, [.t 53], some (52, true)⟩,
    ⟨some 55, .pur .pick, [.t 52, .t 54, .k (.b false)], none⟩,
    ⟨some 56, .pur .mov, [.t 55], none⟩,
    ⟨some 57, .call 74, [], some (56, true)⟩,
    ⟨some 58, .call 81, [.t 57], some (56, true)⟩,
    ⟨some 59, .pur (.bin .eql), [.t 58, .k (.s ⟨#[110, 111, 110, 101]⟩)], some (56, true)⟩,
    ⟨some 60, .pur .pick, [.t 56, .t 59, .k (.b false)], none⟩,
    ⟨some 0, .pur .mov, [.t 60], none⟩]) <|
  .ret
def f59 : AFunc := ⟨61, f59b, [.tmp 0]⟩
/- 60 sluiceway/sluicewaylaw15.small -/
def f60b : ACode :=
  .seq (.ops [
    ⟨some 1, .box .reg, [.t 0], none⟩,
    ⟨some 2, .alloc .reg [.i (0), .s ⟨#[]⟩, .lst 0 true []], [], none⟩]) <|
  .seq (.seq (.ops [
    ⟨some 3, .ld (some 1) 3 true, [.t 1], none⟩,
    ⟨some 4, .call 142, [.t 3], none⟩,
    ⟨some 5, .pur (.bin .gtr), [.t 4, .k (.i (100))], none⟩]) <|
  .cond (.t 5) (.seq (.ops [
      ⟨some 6, .call 130, [.k (.s ⟨#[108, 97, 114, 103, 101]⟩)], none⟩,
      ⟨none, .st (some 2) 3, [.t 2, .t 6], none⟩]) <|
    .ret) (.skip)) <|
  .seq (.ops [
    ⟨some 7, .ld (some 1) 3 true, [.t 1], none⟩,
    ⟨none, .st (some 2) 3, [.t 2, .t 7], none⟩]) <|
  .ret
def f60 : AFunc := ⟨8, f60b, [.cell 2 3 true]⟩
/- 61 sluiceway/sluicewayref10.Same -/
def f61_l0 : ACode :=
  .seq (.seq (.ops [
    ⟨some 28, .pur .mov, [.t 5], none⟩,
    ⟨some 29, .pur (.faddr 2), [.t 2], none⟩,
    ⟨some 30, .ld (some 2) 1 false, [.t 29], none⟩,
    ⟨some 31, .pur .lenL, [.t 30], none⟩,
    ⟨some 32, .pur (.bin .lss), [.t 28, .t 31], none⟩]) <|
  .cond (.t 32) (.skip) (.exit 0)) <|
  .seq (.block 1 (.seq (.ops [
      ⟨some 35, .pur (.faddr 2), [.t 2], none⟩,
      ⟨some 36, .ld (some 2) 1 false, [.t 35], none⟩,
      ⟨some 37, .pur .mov, [.t 5], none⟩,
      ⟨some 38, .pur (.iaddr 3), [.t 36, .t 37], none⟩,
      ⟨some 39, .ld none 3 true, [.t 38], none⟩,
      ⟨some 40, .pur (.faddr 2), [.t 3], none⟩,
      ⟨some 41, .ld (some 3) 1 false, [.t 40], none⟩,
      ⟨some 42, .pur .mov, [.t 5], none⟩,
      ⟨some 43, .pur (.iaddr 3), [.t 41, .t 42], none⟩,
      ⟨some 44, .ld none 3 true, [.t 43], none⟩,
      ⟨some 45, .call 61, [.t 39, .t 44], none⟩,
      ⟨some 6, .pur .mov, [.t 45], none⟩]) <|
    .seq (.ops [
      ⟨some 46, .pur .mov, [.t 6], none⟩,
      ⟨some 47, .pur (.un .not), [.t 46], none⟩]) <|
    .cond (.t 47) (.seq (.ops [
        ⟨some 4, .pur .mov, [.k (.b false)], none⟩]) <|
      .ret) (.skip))) <|
  .ops [
    ⟨some 33, .pur .mov, [.t 5], none⟩,
    ⟨some 34, .pur (.bin .add), [.t 33, .k (.i (1))], none⟩,
    ⟨some 5, .pur .mov, [.t 34], none⟩]
def f61b : ACode :=
  .seq (.ops [
    ⟨some 2, .box .reg, [.t 0], none⟩,
    ⟨some 3, .box .reg, [.t 1], none⟩,
    ⟨some 4, .pur .mov, [.k (.b false)], none⟩]) <|
  .seq (.seq (.ops [
    ⟨some 7, .pur (.faddr 0), [.t 2], none⟩,
    ⟨some 8, .ld (some 2) 1 false, [.t 7], none⟩,
    ⟨some 9, .pur (.faddr 0), [.t 3], none⟩,
    ⟨some 10, .ld (some 3) 1 false, [.t 9], none⟩,
    ⟨some 11, .pur (.bin .neq), [.t 8, .t 10], none⟩,
    ⟨some 12, .pur .mov, [.t 11], none⟩,
    ⟨some 13, .pur (.faddr 1), [.t 2], some (12, false)⟩,
    ⟨some 14, .ld (some 2) 1 false, [.t 13], some (12, false)⟩,
    ⟨some 15, .pur (.faddr 1), [.t 3], some (12, false)⟩,
    ⟨some 16, .ld (some 3) 1 false, [.t 15], some (12, false)⟩,
    ⟨some 17, .pur (.bin .neq), [.t 14, .t 16], some (12, false)⟩,
    ⟨some 18, .pur .pick, [.t 12, .k (.b true), .t 17], none⟩,
    ⟨some 19, .pur .mov, [.t 18], none⟩,
    ⟨some 20, .pur (.faddr 2), [.t 2], some (19, false)⟩,
    ⟨some 21, .ld (some 2) 1 false, [.t 20], some (19, false)⟩,
    ⟨some 22, .pur .lenL, [.t 21], some (19, false)⟩,
    ⟨some 23, .pur (.faddr 2), [.t 3], some (19, false)⟩,
    ⟨some 24, .ld (some 3) 1 false, [.t 23], some (19, false)⟩,
    ⟨some 25, .pur .lenL, [.t 24], some (19, false)⟩,
    ⟨some 26, .pur (.bin .neq), [.t 22, .t 25], some (19, false)⟩,
    ⟨some 27, .pur .pick, [.t 19, .k (.b true), .t 26], none⟩]) <|
  .cond (.t 27) (.seq (.ops [
      ⟨some 4, .pur .mov, [.k (.b false)], none⟩]) <|
    .ret) (.skip)) <|
  .seq (.seq (.ops [
    ⟨some 5, .pur .mov, [.k (.i (0))], none⟩]) <|
  .block 0 (.loop [4, 6, 28, 29, 30, 31, 32, 33, 34, 35, 36, 37, 38, 39, 40, 41, 42, 43, 44, 45, 46, 47] [] f61_l0)) <|
  .seq (.ops [
    ⟨some 4, .pur .mov, [.k (.b true)], none⟩]) <|
  .ret
def f61 : AFunc := ⟨48, f61b, [.tmp 4]⟩
/- 62 sluiceway/message.Pack -/
def f62b : ACode :=
  .seq (.ops [
    ⟨some 4, .alloc .reg [.i (0), .s ⟨#[]⟩, .lst 0 true []], [], none⟩]) <|
  .seq (.ops [
    ⟨some 5, .pur .mov, [.t 0], none⟩,
    ⟨some 6, .call 192, [.t 5], none⟩,
    ⟨some 7, .pur (.buildSl 3 1 [.i (0), .s ⟨#[]⟩, .lst 0 true []] [0]), [.t 6], none⟩,
    ⟨some 8, .pur .mov, [.t 1], none⟩,
    ⟨some 9, .pur (.buildSl 1 2 [.lst 0 true []] [0, 1]), [.t 7, .t 8], none⟩,
    ⟨some 10, .call 191, [.t 9], none⟩,
    ⟨some 11, .call 126, [.t 10], none⟩,
    ⟨none, .st (some 4) 3, [.t 4, .t 11], none⟩]) <|
  .ret
def f62 : AFunc := ⟨12, f62b, [.cell 4 3 true]⟩
/- 63 sluiceway/sluicewayref15.Pack -/
def f63_l0 : ACode :=
  .seq (.seq (.ops [
    ⟨some 11, .pur .mov, [.t 6], none⟩,
    ⟨some 12, .pur .mov, [.t 1], none⟩,
    ⟨some 13, .pur .lenL, [.t 12], none⟩,
    ⟨some 14, .pur (.bin .lss), [.t 11, .t 13], none⟩]) <|
  .cond (.t 14) (.skip) (.exit 0)) <|
  .seq (.block 1 (.ops [
      ⟨some 17, .pur (.faddr 2), [.t 5], none⟩,
      ⟨some 18, .ld (some 5) 1 false, [.t 17], none⟩,
      ⟨some 19, .pur .mov, [.t 1], none⟩,
      ⟨some 20, .pur .mov, [.t 6], none⟩,
      ⟨some 21, .pur (.iaddr 3), [.t 19, .t 20], none⟩,
      ⟨some 22, .ld none 3 true, [.t 21], none⟩,
      ⟨some 23, .pur (.buildSl 3 1 [.i (0), .s ⟨#[]⟩, .lst 0 true []] [0]), [.t 22], none⟩,
      ⟨some 24, .append 3 48, [.t 18, .t 23], none⟩,
      ⟨some 25, .pur (.faddr 2), [.t 5], none⟩,
      ⟨none, .st (some 5) 1, [.t 25, .t 24], none⟩])) <|
  .ops [
    ⟨some 15, .pur .mov, [.t 6], none⟩,
    ⟨some 16, .pur (.bin .add), [.t 15, .k (.i (1))], none⟩,
    ⟨some 6, .pur .mov, [.t 16], none⟩]
def f63b : ACode :=
  .seq (.ops [
    ⟨some 4, .alloc .reg [.i (0), .s ⟨#[]⟩, .lst 0 true []], [], none⟩]) <|
  .seq (.ops [
    ⟨some 7, .pur .mov, [.t 0], none⟩,
    ⟨some 8, .call 161, [.t 7], none⟩,
    ⟨some 9, .pur (.buildSl 3 1 [.i (0), .s ⟨#[]⟩, .lst 0 true []] [0]), [.t 8], none⟩,
    ⟨some 10, .pur (.build [.i (0), .s ⟨#[]⟩, .lst 0 true []] [(0, 1), (2, 1)]), [.k (.i (3)), .t 9], none⟩,
    ⟨some 5, .alloc .reg [.i (0), .s ⟨#[]⟩, .lst 0 true []], [], none⟩,
    ⟨none, .st (some 5) 3, [.t 5, .t 10], none⟩]) <|
  .seq (.seq (.ops [
    ⟨some 6, .pur .mov, [.k (.i (0))], none⟩]) <|
  .block 0 (.loop [11, 12, 13, 14, 15, 16, 17, 18, 19, 20, 21, 22, 23, 24, 25] [] f63_l0)) <|
  .seq (.ops [
    ⟨some 26, .ld (some 5) 3 true, [.t 5], none⟩,
    ⟨none, .st (some 4) 3, [.t 4, .t 26], none⟩]) <|
  .ret
def f63 : AFunc := ⟨27, f63b, [.cell 4 3 true]⟩
/- 64 sluiceway/message.Word -/
def f64b : ACode :=
  .seq (.ops [
    ⟨some 2, .alloc .reg [.i (0), .s ⟨#[]⟩, .lst 0 true []], [], none⟩]) <|
  .seq (.ops [
    ⟨some 3, .pur .mov, [.t 0], none⟩,
    ⟨some 4, .pur (.bin .add), [.k (.s ⟨#[61]⟩), .t 3], none⟩,
    ⟨some 5, .call 192, [.t 4], none⟩,
    ⟨none, .st (some 2) 3, [.t 2, .t 5], none⟩]) <|
  .ret
def f64 : AFunc := ⟨6, f64b, [.cell 2 3 true]⟩
/- 65 sluiceway/sluicewayref15.Word -/
def f65b : ACode :=
  .seq (.ops [
    ⟨some 2, .alloc .reg [.i (0), .s ⟨#[]⟩, .lst 0 true []], [], none⟩]) <|
  .seq (.ops [
    ⟨some 3, .pur .mov, [.t 0], none⟩,
    ⟨some 4, .pur (.bin .add), [.k (.s ⟨#[61]⟩), .t 3], none⟩,
    ⟨some 5, .call 161, [.t 4], none⟩,
    ⟨none, .st (some 2) 3, [.t 2, .t 5], none⟩]) <|
  .ret
def f65 : AFunc := ⟨6, f65b, [.cell 2 3 true]⟩
/- 66 sluiceway/message.Number -/
def f66b : ACode :=
  .seq (.ops [
    ⟨some 2, .alloc .reg [.i (0), .s ⟨#[]⟩, .lst 0 true []], [], none⟩]) <|
  .seq (.ops [
    ⟨some 3, .pur .mov, [.t 0], none⟩,
    ⟨some 4, .call 193, [.t 3], none⟩,
    ⟨some 5, .call 64, [.t 4], none⟩,
    ⟨none, .st (some 2) 3, [.t 2, .t 5], none⟩]) <|
  .ret
def f66 : AFunc := ⟨6, f66b, [.cell 2 3 true]⟩
/- 67 sluiceway/sluicewayref15.Number -/
def f67b : ACode :=
  .seq (.ops [
    ⟨some 2, .alloc .reg [.i (0), .s ⟨#[]⟩, .lst 0 true []], [], none⟩]) <|
  .seq (.ops [
    ⟨some 3, .pur .mov, [.t 0], none⟩,
    ⟨some 4, .call 139, [.t 3], none⟩,
    ⟨some 5, .call 65, [.t 4], none⟩,
    ⟨none, .st (some 2) 3, [.t 2, .t 5], none⟩]) <|
  .ret
def f67 : AFunc := ⟨6, f67b, [.cell 2 3 true]⟩
/- 68 sluiceway/message.Words -/
def f68_l0 : ACode :=
  .seq (.ops [
    ⟨some 9, .pur (.bin .lss), [.t 8, .t 7], none⟩]) <|
  .seq (.cond (.t 9) (.skip) (.exit 0)) <|
  .seq (.block 1 (.seq (.ops [
      ⟨some 10, .pur (.iaddr 1), [.t 6, .t 8], none⟩,
      ⟨some 11, .ld none 1 false, [.t 10], none⟩,
      ⟨some 5, .pur .mov, [.t 11], none⟩]) <|
    .ops [
      ⟨some 12, .pur .mov, [.t 3], none⟩,
      ⟨some 13, .pur .mov, [.t 5], none⟩,
      ⟨some 14, .call 64, [.t 13], none⟩,
      ⟨some 15, .pur (.buildSl 3 1 [.i (0), .s ⟨#[]⟩, .lst 0 true []] [0]), [.t 14], none⟩,
      ⟨some 16, .append 3 48, [.t 12, .t 15], none⟩,
      ⟨some 3, .pur .mov, [.t 16], none⟩])) <|
  .ops [
    ⟨some 17, .pur (.bin .add), [.t 8, .k (.i (1))], none⟩,
    ⟨some 8, .pur .mov, [.t 17], none⟩]
def f68b : ACode :=
  .seq (.ops [
    ⟨some 2, .alloc .reg [.i (0), .s ⟨#[]⟩, .lst 0 true []], [], none⟩]) <|
  .seq (.ops [
    ⟨some 3, .pur .mov, [.k (.lst 0 true [])], none⟩]) <|
  .seq (.seq (.ops [
    ⟨some 6, .pur .mov, [.t 0], none⟩,
    ⟨some 7, .pur .lenL, [.t 6], none⟩,
    ⟨some 8, .pur .mov, [.k (.i (0))], none⟩]) <|
  .block 0 (.loop [5, 9, 10, 11, 12, 13, 14, 15, 16, 17] [] f68_l0)) <|
  .seq (.ops [
    ⟨some 18, .pur .mov, [.t 3], none⟩,
    ⟨some 19, .call 126, [.t 18], none⟩,
    ⟨none, .st (some 2) 3, [.t 2, .t 19], none⟩]) <|
  .ret
def f68 : AFunc := ⟨20, f68b, [.cell 2 3 true]⟩
/- 69 sluiceway/sluicewayref15.Words -/
def f69_l0 : ACode :=
  .seq (.seq (.ops [
    ⟨some 6, .pur .mov, [.t 4], none⟩,
    ⟨some 7, .pur .mov, [.t 0], none⟩,
    ⟨some 8, .pur .lenL, [.t 7], none⟩,
    ⟨some 9, .pur (.bin .lss), [.t 6, .t 8], none⟩]) <|
  .cond (.t 9) (.skip) (.exit 0)) <|
  .seq (.block 1 (.ops [
      ⟨some 12, .pur (.faddr 2), [.t 3], none⟩,
      ⟨some 13, .ld (some 3) 1 false, [.t 12], none⟩,
      ⟨some 14, .pur .mov, [.t 0], none⟩,
      ⟨some 15, .pur .mov, [.t 4], none⟩,
      ⟨some 16, .pur (.iaddr 1), [.t 14, .t 15], none⟩,
      ⟨some 17, .ld none 1 false, [.t 16], none⟩,
      ⟨some 18, .call 65, [.t 17], none⟩,
      ⟨some 19, .pur (.buildSl 3 1 [.i (0), .s ⟨#[]⟩, .lst 0 true []] [0]), [.t 18], none⟩,
      ⟨some 20, .append 3 48, [.t 13, .t 19], none⟩,
      ⟨some 21, .pur (.faddr 2), [.t 3], none⟩,
      ⟨none, .st (some 3) 1, [.t 21, .t 20], none⟩])) <|
  .ops [
    ⟨some 10, .pur .mov, [.t 4], none⟩,
    ⟨some 11, .pur (.bin .add), [.t 10, .k (.i (1))], none⟩,
    ⟨some 4, .pur .mov, [.t 11], none⟩]
def f69b : ACode :=
  .seq (.ops [
    ⟨some 2, .alloc .reg [.i (0), .s ⟨#[]⟩, .lst 0 true []], [], none⟩]) <|
  .seq (.ops [
    ⟨some 5, .pur (.build [.i (0), .s ⟨#[]⟩, .lst 0 true []] [(0, 1)]), [.k (.i (3))], none⟩,
    ⟨some 3, .alloc .reg [.i (0), .s ⟨#[]⟩, .lst 0 true []], [], none⟩,
    ⟨none, .st (some 3) 3, [.t 3, .t 5], none⟩]) <|
  .seq (.seq (.ops [
    ⟨some 4, .pur .mov, [.k (.i (0))], none⟩]) <|
  .block 0 (.loop [6, 7, 8, 9, 10, 11, 12, 13, 14, 15, 16, 17, 18, 19, 20, 21] [] f69_l0)) <|
  .seq (.ops [
    ⟨some 22, .ld (some 3) 3 true, [.t 3], none⟩,
    ⟨none, .st (some 2) 3, [.t 2, .t 22], none⟩]) <|
  .ret
def f69 : AFunc := ⟨23, f69b, [.cell 2 3 true]⟩
/- 70 sluiceway/message.Ask -/
def f70b : ACode :=
  .seq (.ops [
    ⟨some 3, .box .reg, [.t 0], none⟩,
    ⟨some 4, .box .reg, [.t 1], none⟩,
    ⟨some 5, .box .reg, [.t 2], none⟩,
    ⟨some 6, .alloc .reg [.i (0), .s ⟨#[]⟩, .lst 0 true []], [], none⟩]) <|
  .seq (.ops [
    ⟨some 7, .ld (some 3) 3 true, [.t 3], none⟩,
    ⟨some 8, .ld (some 4) 3 true, [.t 4], none⟩,
    ⟨some 9, .ld (some 5) 3 true, [.t 5], none⟩,
    ⟨some 10, .pur (.buildSl 3 3 [.i (0), .s ⟨#[]⟩, .lst 0 true []] [0, 1, 2]), [.t 7, .t 8, .t 9], none⟩,
    ⟨some 11, .call 62, [.k (.s ⟨#[97, 115, 45, 114, 101, 113]⟩), .t 10], none⟩,
    ⟨none, .st (some 6) 3, [.t 6, .t 11], none⟩]) <|
  .ret
def f70 : AFunc := ⟨12, f70b, [.cell 6 3 true]⟩
/- 71 sluiceway/sluicewayref15.Ask -/
def f71b : ACode :=
  .seq (.ops [
    ⟨some 3, .box .reg, [.t 0], none⟩,
    ⟨some 4, .box .reg, [.t 1], none⟩,
    ⟨some 5, .box .reg, [.t 2], none⟩,
    ⟨some 6, .alloc .reg [.i (0), .s ⟨#[]⟩, .lst 0 true []], [], none⟩]) <|
  .seq (.ops [
    ⟨some 7, .ld (some 3) 3 true, [.t 3], none⟩,
    ⟨some 8, .ld (some 4) 3 true, [.t 4], none⟩,
    ⟨some 9, .ld (some 5) 3 true, [.t 5], none⟩,
    ⟨some 10, .pur (.buildSl 3 3 [.i (0), .s ⟨#[]⟩, .lst 0 true []] [0, 1, 2]), [.t 7, .t 8, .t 9], none⟩,
    ⟨some 11, .call 63, [.k (.s ⟨#[97, 115, 45, 114, 101, 113]⟩), .t 10], none⟩,
    ⟨none, .st (some 6) 3, [.t 6, .t 11], none⟩]) <|
  .ret
def f71 : AFunc := ⟨12, f71b, [.cell 6 3 true]⟩
/- 72 sluiceway/message.Refuse -/
def f72b : ACode :=
  .seq (.ops [
    ⟨some 2, .alloc .reg [.i (0), .s ⟨#[]⟩, .lst 0 true []], [], none⟩]) <|
  .seq (.ops [
    ⟨some 3, .pur .mov, [.t 0], none⟩,
    ⟨some 4, .call 66, [.t 3], none⟩,
    ⟨some 5, .pur (.buildSl 3 1 [.i (0), .s ⟨#[]⟩, .lst 0 true []] [0]), [.t 4], none⟩,
    ⟨some 6, .call 62, [.k (.s ⟨#[101, 114, 114, 111, 114]⟩), .t 5], none⟩,
    ⟨none, .st (some 2) 3, [.t 2, .t 6], none⟩]) <|
  .ret
def f72 : AFunc := ⟨7, f72b, [.cell 2 3 true]⟩
/- 73 sluiceway/sluicewayref15.Refuse -/
def f73b : ACode :=
  .seq (.ops [
    ⟨some 2, .alloc .reg [.i (0), .s ⟨#[]⟩, .lst 0 true []], [], none⟩]) <|
  .seq (.ops [
    ⟨some 3, .pur .mov, [.t 0], none⟩,
    ⟨some 4, .call 67, [.t 3], none⟩,
    ⟨some 5, .pur (.buildSl 3 1 [.i (0), .s ⟨#[]⟩, .lst 0 true []] [0]), [.t 4], none⟩,
    ⟨some 6, .call 63, [.k (.s ⟨#[101, 114, 114, 111, 114]⟩), .t 5], none⟩,
    ⟨none, .st (some 2) 3, [.t 2, .t 6], none⟩]) <|
  .ret
def f73 : AFunc := ⟨7, f73b, [.cell 2 3 true]⟩
/- 74 sluiceway/message.None -/
def f74b : ACode :=
  .seq (.ops [
    ⟨some 0, .alloc .reg [.i (0), .s ⟨#[]⟩, .lst 0 true []], [], none⟩]) <|
  .seq (.ops [
    ⟨some 1, .call 62, [.k (.s ⟨#[110, 111, 110, 101]⟩), .k (.lst 0 true [])], none⟩,
    ⟨none, .st (some 0) 3, [.t 0, .t 1], none⟩]) <|
  .ret
def f74 : AFunc := ⟨2, f74b, [.cell 0 3 true]⟩
/- 75 sluiceway/sluicewayref15.None -/
def f75b : ACode :=
  .seq (.ops [
    ⟨some 0, .alloc .reg [.i (0), .s ⟨#[]⟩, .lst 0 true []], [], none⟩]) <|
  .seq (.ops [
    ⟨some 1, .call 63, [.k (.s ⟨#[110, 111, 110, 101]⟩), .k (.lst 0 true [])], none⟩,
    ⟨none, .st (some 0) 3, [.t 0, .t 1], none⟩]) <|
  .ret
def f75 : AFunc := ⟨2, f75b, [.cell 0 3 true]⟩
/- 76 sluiceway/message.Body -/
def f76b : ACode :=
  .seq (.ops [
    ⟨some 4, .alloc .reg [.i (0), .s ⟨#[]⟩, .lst 0 true []], [], none⟩]) <|
  .seq (.ops [
    ⟨some 5, .pur .mov, [.t 0], none⟩,
    ⟨some 6, .call 64, [.t 5], none⟩,
    ⟨some 7, .pur .mov, [.t 1], none⟩,
    ⟨some 8, .call 64, [.t 7], none⟩,
    ⟨some 9, .pur (.buildSl 3 2 [.i (0), .s ⟨#[]⟩, .lst 0 true []] [0, 1]), [.t 6, .t 8], none⟩,
    ⟨some 10, .call 62, [.k (.s ⟨#[98, 111, 100, 121]⟩), .t 9], none⟩,
    ⟨none, .st (some 4) 3, [.t 4, .t 10], none⟩]) <|
  .ret
def f76 : AFunc := ⟨11, f76b, [.cell 4 3 true]⟩
/- 77 sluiceway/sluicewayref15.Body -/
def f77b : ACode :=
  .seq (.ops [
    ⟨some 4, .alloc .reg [.i (0), .s ⟨#[]⟩, .lst 0 true []], [], none⟩]) <|
  .seq (.ops [
    ⟨some 5, .pur .mov, [.t 0], none⟩,
    ⟨some 6, .call 65, [.t 5], none⟩,
    ⟨some 7, .pur .mov, [.t 1], none⟩,
    ⟨some 8, .call 65, [.t 7], none⟩,
    ⟨some 9, .pur (.buildSl 3 2 [.i (0), .s ⟨#[]⟩, .lst 0 true []] [0, 1]), [.t 6, .t 8], none⟩,
    ⟨some 10, .call 63, [.k (.s ⟨#[98, 111, 100, 121]⟩), .t 9], none⟩,
    ⟨none, .st (some 4) 3, [.t 4, .t 10], none⟩]) <|
  .ret
def f77 : AFunc := ⟨11, f77b, [.cell 4 3 true]⟩
/- 78 sluiceway/message.Unpack -/
def f78b : ACode :=
  .seq (.ops [
    ⟨some 5, .box .reg, [.t 2], none⟩,
    ⟨some 6, .pur .mov, [.k (.lst 0 true [])], none⟩,
    ⟨some 7, .pur .mov, [.k (.b false)], none⟩]) <|
  .seq (.seq (.ops [
    ⟨some 8, .pur .mov, [.t 0], none⟩,
    ⟨some 9, .pur (.bin .eql), [.t 8, .k (.s ⟨#[]⟩)], none⟩,
    ⟨some 10, .pur .mov, [.t 9], none⟩,
    ⟨some 11, .ld (some 5) 3 true, [.t 5], some (10, false)⟩,
    ⟨some 12, .call 81, [.t 11], some (10, false)⟩,
    ⟨some 13, .pur .mov, [.t 0], some (10, false)⟩,
    ⟨some 14, .pur (.bin .neq), [.t 12, .t 13], some (10, false)⟩,
    ⟨some 15, .pur .pick, [.t 10, .k (.b true), .t 14], none⟩,
    ⟨some 16, .pur .mov, [.t 15], none⟩,
    ⟨some 17, .pur (.faddr 2), [.t 5], some (16, false)⟩,
    ⟨some 18, .ld (some 5) 1 false, [.t 17], some (16, false)⟩,
    ⟨some 19, .pur .lenL, [.t 18], some (16, false)⟩,
    ⟨some 20, .pur (.bin .sub), [.t 19, .k (.i (1))], some (16, false)⟩,
    ⟨some 21, .pur .mov, [.t 1], some (16, false)⟩,
    ⟨some 22, .pur (.bin .neq), [.t 20, .t 21], some (16, false)⟩,
    ⟨some 23, .pur .pick, [.t 16, .k (.b true), .t 22], none⟩]) <|
  .cond (.t 23) (.seq (.ops [
      ⟨some 6, .pur .mov, [.k (.lst 0 true [])], none⟩,
      ⟨some 7, .pur .mov, [.k (.b false)], none⟩]) <|
    .ret) (.skip)) <|
  .seq (.ops [
    ⟨some 24, .pur (.faddr 2), [.t 5], none⟩,
    ⟨some 25, .ld (some 5) 1 false, [.t 24], none⟩,
    ⟨some 26, .pur .lenL, [.t 25], none⟩,
    ⟨some 1, .pur .mov, [.t 26], none⟩]) <|
  .seq (.ops [
    ⟨some 27, .pur (.faddr 2), [.t 5], none⟩,
    ⟨some 28, .ld (some 5) 1 false, [.t 27], none⟩,
    ⟨some 29, .pur .mov, [.t 1], none⟩,
    ⟨some 30, .pur .mov, [.t 1], none⟩,
    ⟨some 31, .pur (.sliceL 3 true true true), [.t 28, .k (.i (1)), .t 29, .t 30], none⟩,
    ⟨some 6, .pur .mov, [.t 31], none⟩,
    ⟨some 7, .pur .mov, [.k (.b true)], none⟩]) <|
  .ret
def f78 : AFunc := ⟨32, f78b, [.tmp 6, .tmp 7]⟩
/- 79 sluiceway/sluicewayref15.Unpack -/
def f79b : ACode :=
  .seq (.ops [
    ⟨some 5, .box .reg, [.t 2], none⟩,
    ⟨some 6, .pur .mov, [.k (.lst 0 true [])], none⟩,
    ⟨some 7, .pur .mov, [.k (.b false)], none⟩]) <|
  .seq (.ops [
    ⟨some 9, .ld (some 5) 3 true, [.t 5], none⟩,
    ⟨some 10, .call 82, [.t 9], none⟩,
    ⟨some 8, .pur .mov, [.t 10], none⟩]) <|
  .seq (.seq (.ops [
    ⟨some 11, .pur .mov, [.t 0], none⟩,
    ⟨some 12, .pur (.bin .eql), [.t 11, .k (.s ⟨#[]⟩)], none⟩,
    ⟨some 13, .pur .mov, [.t 12], none⟩,
    ⟨some 14, .pur .mov, [.t 8], some (13, false)⟩,
    ⟨some 15, .pur .mov, [.t 0], some (13, false)⟩,
    ⟨some 16, .pur (.bin .neq), [.t 14, .t 15], some (13, false)⟩,
    ⟨some 17, .pur .pick, [.t 13, .k (.b true), .t 16], none⟩,
    ⟨some 18, .pur .mov, [.t 17], none⟩,
    ⟨some 19, .pur (.faddr 2), [.t 5], some (18, false)⟩,
    ⟨some 20, .ld (some 5) 1 false, [.t 19], some (18, false)⟩,
    ⟨some 21, .pur .lenL, [.t 20], some (18, false)⟩,
    ⟨some 22, .pur .mov, [.t 1], some (18, false)⟩,
    ⟨some 23, .pur (.bin .add), [.t 22, .k (.i (1))], some (18, false)⟩,
    ⟨some 24, .pur (.bin .neq), [.t 21, .t 23], some (18, false)⟩,
    ⟨some 25, .pur .pick, [.t 18, .k (.b true), .t 24], none⟩]) <|
  .cond (.t 25) (.seq (.ops [
      ⟨some 6, .pur .mov, [.k (.lst 0 true [])], none⟩,
      ⟨some 7, .pur .mov, [.k (.b false)], none⟩]) <|
    .ret) (.skip)) <|
  .seq (.ops [
    ⟨some 26, .pur (.faddr 2), [.t 5], none⟩,
    ⟨some 27, .ld (some 5) 1 false, [.t 26], none⟩,
    ⟨some 28, .pur (.sliceL 3 true false false), [.t 27, .k (.i (1))], none⟩,
    ⟨some 6, .pur .mov, [.t 28], none⟩,
    ⟨some 7, .pur .mov, [.k (.b true)], none⟩]) <|
  .ret
def f79 : AFunc := ⟨29, f79b, [.tmp 6, .tmp 7]⟩
/- 80 sluiceway/sluicewaylaw15.same -/
def f80_l0 : ACode :=
  .seq (.seq (.ops [
    ⟨some 11, .pur .mov, [.t 5], none⟩,
    ⟨some 12, .pur .mov, [.t 0], none⟩,
    ⟨some 13, .pur .lenL, [.t 12], none⟩,
    ⟨some 14, .pur (.bin .lss), [.t 11, .t 13], none⟩]) <|
  .cond (.t 14) (.skip) (.exit 0)) <|
  .seq (.block 1 (.seq (.ops [
      ⟨some 17, .pur .mov, [.t 0], none⟩,
      ⟨some 18, .pur .mov, [.t 5], none⟩,
      ⟨some 19, .pur (.iaddr 3), [.t 17, .t 18], none⟩,
      ⟨some 20, .ld none 3 true, [.t 19], none⟩,
      ⟨some 21, .pur .mov, [.t 1], none⟩,
      ⟨some 22, .pur .mov, [.t 5], none⟩,
      ⟨some 23, .pur (.iaddr 3), [.t 21, .t 22], none⟩,
      ⟨some 24, .ld none 3 true, [.t 23], none⟩,
      ⟨some 25, .call 61, [.t 20, .t 24], none⟩,
      ⟨some 26, .pur (.un .not), [.t 25], none⟩]) <|
    .cond (.t 26) (.seq (.ops [
        ⟨some 4, .pur .mov, [.k (.b false)], none⟩]) <|
      .ret) (.skip))) <|
  .ops [
    ⟨some 15, .pur .mov, [.t 5], none⟩,
    ⟨some 16, .pur (.bin .add), [.t 15, .k (.i (1))], none⟩,
    ⟨some 5, .pur .mov, [.t 16], none⟩]
def f80b : ACode :=
  .seq (.ops [
    ⟨some 4, .pur .mov, [.k (.b false)], none⟩]) <|
  .seq (.seq (.ops [
    ⟨some 6, .pur .mov, [.t 0], none⟩,
    ⟨some 7, .pur .lenL, [.t 6], none⟩,
    ⟨some 8, .pur .mov, [.t 1], none⟩,
    ⟨some 9, .pur .lenL, [.t 8], none⟩,
    ⟨some 10, .pur (.bin .neq), [.t 7, .t 9], none⟩]) <|
  .cond (.t 10) (.seq (.ops [
      ⟨some 4, .pur .mov, [.k (.b false)], none⟩]) <|
    .ret) (.skip)) <|
  .seq (.seq (.ops [
    ⟨some 5, .pur .mov, [.k (.i (0))], none⟩]) <|
  .block 0 (.loop [4, 11, 12, 13, 14, 15, 16, 17, 18, 19, 20, 21, 22, 23, 24, 25, 26] [] f80_l0)) <|
  .seq (.ops [
    ⟨some 4, .pur .mov, [.k (.b true)], none⟩]) <|
  .ret
def f80 : AFunc := ⟨27, f80b, [.tmp 4]⟩
/- 81 sluiceway/message.Tag -/
def f81b : ACode :=
  .seq (.ops [
    ⟨some 1, .box .reg, [.t 0], none⟩,
    ⟨some 2, .pur .mov, [.k (.s ⟨#[]⟩)], none⟩]) <|
  .seq (.seq (.ops [
    ⟨some 5, .pur (.faddr 0), [.t 1], none⟩,
    ⟨some 6, .ld (some 1) 1 false, [.t 5], none⟩,
    ⟨some 7, .pur (.bin .eql), [.t 6, .k (.i (3))], none⟩,
    ⟨some 8, .pur .mov, [.t 7], none⟩,
    ⟨some 9, .pur (.faddr 1), [.t 1], some (8, true)⟩,
    ⟨some 10, .ld (some 1) 1 false, [.t 9], some (8, true)⟩,
    ⟨some 11, .pur (.bin .eql), [.t 10, .k (.s ⟨#[]⟩)], some (8, true)⟩,
    ⟨some 12, .pur .pick, [.t 8, .t 11, .k (.b false)], none⟩,
    ⟨some 13, .pur .mov, [.t 12], none⟩,
    ⟨some 14, .pur (.faddr 2), [.t 1], some (13, true)⟩,
    ⟨some 15, .ld (some 1) 1 false, [.t 14], some (13, true)⟩,
    ⟨some 16, .pur .lenL, [.t 15], some (13, true)⟩,
    ⟨some 17, .pur (.bin .gtr), [.t 16, .k (.i (0))], some (13, true)⟩,
    ⟨some 18, .pur .pick, [.t 13, .t 17, .k (.b false)], none⟩]) <|
  .cond (.t 18) (.seq (.ops [
      ⟨some 20, .pur (.faddr 2), [.t 1], none⟩,
      ⟨some 21, .ld (some 1) 1 false, [.t 20], none⟩,
      ⟨some 22, .pur (.iaddr 3), [.t 21, .k (.i (0))], none⟩,
      ⟨some 23, .ld none 3 true, [.t 22], none⟩,
      ⟨some 24, .call 194, [.t 23], none⟩,
      ⟨some 19, .pur .mov, [.t 24], none⟩,
      ⟨some 25, .pur (.extract 0), [.t 19], none⟩,
      ⟨some 26, .pur (.extract 1), [.t 19], none⟩,
      ⟨some 3, .pur .mov, [.t 25], none⟩,
      ⟨some 4, .pur .mov, [.t 26], none⟩]) <|
    .seq (.ops [
      ⟨some 27, .pur .mov, [.t 4], none⟩]) <|
    .cond (.t 27) (.seq (.ops [
        ⟨some 28, .pur .mov, [.t 3], none⟩,
        ⟨some 2, .pur .mov, [.t 28], none⟩]) <|
      .ret) (.skip)) (.skip)) <|
  .seq (.ops [
    ⟨some 2, .pur .mov, [.k (.s ⟨#[]⟩)], none⟩]) <|
  .ret
def f81 : AFunc := ⟨29, f81b, [.tmp 2]⟩
/- 82 sluiceway/sluicewayref15.Tag -/
def f82b : ACode :=
  .seq (.ops [
    ⟨some 1, .box .reg, [.t 0], none⟩,
    ⟨some 2, .pur .mov, [.k (.s ⟨#[]⟩)], none⟩]) <|
  .seq (.seq (.ops [
    ⟨some 3, .pur (.faddr 0), [.t 1], none⟩,
    ⟨some 4, .ld (some 1) 1 false, [.t 3], none⟩,
    ⟨some 5, .pur (.bin .neq), [.t 4, .k (.i (3))], none⟩,
    ⟨some 6, .pur .mov, [.t 5], none⟩,
    ⟨some 7, .pur (.faddr 1), [.t 1], some (6, false)⟩,
    ⟨some 8, .ld (some 1) 1 false, [.t 7], some (6, false)⟩,
    ⟨some 9, .pur (.bin .neq), [.t 8, .k (.s ⟨#[]⟩)], some (6, false)⟩,
    ⟨some 10, .pur .pick, [.t 6, .k (.b true), .t 9], none⟩,
    ⟨some 11, .pur .mov, [.t 10], none⟩,
    ⟨some 12, .pur (.faddr 2), [.t 1], some (11, false)⟩,
    ⟨some 13, .ld (some 1) 1 false, [.t 12], some (11, false)⟩,
    ⟨some 14, .pur .lenL, [.t 13], some (11, false)⟩,
    ⟨some 15, .pur (.bin .eql), [.t 14, .k (.i (0))], some (11, false)⟩,
    ⟨some 16, .pur .pick, [.t 11, .k (.b true), .t 15], none⟩,
    ⟨some 17, .pur .mov, [.t 16], none⟩,
    ⟨some 18, .pur (.faddr 2), [.t 1], some (17, false)⟩,
    ⟨some 19, .ld (some 1) 1 false, [.t 18], some (17, false)⟩,
    ⟨some 20, .pur (.iaddr 3), [.t 19, .k (.i (0))], some (17, false)⟩,
    ⟨some 21, .pur (.faddr 0), [.t 20], some (17, false)⟩,
    ⟨some 22, .ld none 1 false, [.t 21], some (17, false)⟩,
    ⟨some 23, .pur (.bin .neq), [.t 22, .k (.i (1))], some (17, false)⟩,
    ⟨some 24, .pur .pick, [.t 17, .k (.b true), .t 23], none⟩,
    ⟨some 25, .pur .mov, [.t 24], none⟩,
    ⟨some 26, .pur (.faddr 2), [.t 1], some (25, false)⟩,
    ⟨some 27, .ld (some 1) 1 false, [.t 26], some (25, false)⟩,
    ⟨some 28, .pur (.iaddr 3), [.t 27, .k (.i (0))], some (25, false)⟩,
    ⟨some 29, .pur (.faddr 2), [.t 28], some (25, false)⟩,
    ⟨some 30, .ld none 1 false, [.t 29], some (25, false)⟩,
    ⟨some 31, .pur .lenL, [.t 30], some (25, false)⟩,
    ⟨some 32, .pur (.bin .gtr), [.t 31, .k (.i (0))], some (25, false)⟩,
    ⟨some 33, .pur .pick, [.t 25, .k (.b true), .t 32], none⟩]) <|
  .cond (.t 33) (.seq (.ops [
      ⟨some 2, .pur .mov, [.k (.s ⟨#[]⟩)], none⟩]) <|
    .ret) (.skip)) <|
  .seq (.ops [
    ⟨some 34, .pur (.faddr 2), [.t 1], none⟩,
    ⟨some 35, .ld (some 1) 1 false, [.t 34], none⟩,
    ⟨some 36, .pur (.iaddr 3), [.t 35, .k (.i (0))], none⟩,
    ⟨some 37, .pur (.faddr 1), [.t 36], none⟩,
    ⟨some 38, .ld none 1 false, [.t 37], none⟩,
    ⟨some 2, .pur .mov, [.t 38], none⟩]) <|
  .ret
def f82 : AFunc := ⟨39, f82b, [.tmp 2]⟩
/- 83 sluiceway/message.IsNone -/
def f83b : ACode :=
  .seq (.ops [
    ⟨some 1, .box .reg, [.t 0], none⟩,
    ⟨some 2, .pur .mov, [.k (.b false)], none⟩]) <|
  .seq (.ops [
    ⟨some 6, .ld (some 1) 3 true, [.t 1], none⟩,
    ⟨some 7, .call 78, [.k (.s ⟨#[110, 111, 110, 101]⟩), .k (.i (0)), .t 6], none⟩,
    ⟨some 5, .pur .mov, [.t 7], none⟩,
    ⟨some 8, .pur (.extract 0), [.t 5], none⟩,
    ⟨some 9, .pur (.extract 1), [.t 5], none⟩,
    ⟨some 3, .pur .mov, [.t 8], none⟩,
    ⟨some 4, .pur .mov, [.t 9], none⟩]) <|
  .seq (.ops [
    ⟨some 10, .pur .mov, [.t 4], none⟩,
    ⟨some 2, .pur .mov, [.t 10], none⟩]) <|
  .ret
def f83 : AFunc := ⟨11, f83b, [.tmp 2]⟩
/- 84 sluiceway/sluicewayref15.IsNone -/
def f84b : ACode :=
  .seq (.ops [
    ⟨some 1, .box .reg, [.t 0], none⟩,
    ⟨some 2, .pur .mov, [.k (.b false)], none⟩]) <|
  .seq (.ops [
    ⟨some 6, .ld (some 1) 3 true, [.t 1], none⟩,
    ⟨some 7, .call 79, [.k (.s ⟨#[110, 111, 110, 101]⟩), .k (.i (0)), .t 6], none⟩,
    ⟨some 5, .pur .mov, [.t 7], none⟩,
    ⟨some 8, .pur (.extract 0), [.t 5], none⟩,
    ⟨some 9, .pur (.extract 1), [.t 5], none⟩,
    ⟨some 3, .pur .mov, [.t 8], none⟩,
    ⟨some 4, .pur .mov, [.t 9], none⟩]) <|
  .seq (.ops [
    ⟨some 10, .pur .mov, [.t 4], none⟩,
    ⟨some 2, .pur .mov, [.t 10], none⟩]) <|
  .ret
def f84 : AFunc := ⟨11, f84b, [.tmp 2]⟩
/- 85 sluiceway/message.WordOf -/
def f85b : ACode :=
  .seq (.ops [
    ⟨some 1, .box .reg, [.t 0], none⟩,
    ⟨some 2, .pur .mov, [.k (.s ⟨#[]⟩)], none⟩,
    ⟨some 3, .pur .mov, [.k (.b false)], none⟩]) <|
  .seq (.ops [
    ⟨some 8, .ld (some 1) 3 true, [.t 1], none⟩,
    ⟨some 9, .call 194, [.t 8], none⟩,
    ⟨some 7, .pur .mov, [.t 9], none⟩,
    ⟨some 10, .pur (.extract 0), [.t 7], none⟩,
    ⟨some 11, .pur (.extract 1), [.t 7], none⟩,
    ⟨some 4, .pur .mov, [.t 10], none⟩,
    ⟨some 5, .pur .mov, [.t 11], none⟩]) <|
  .seq (.ops [
    ⟨some 13, .pur .mov, [.t 4], none⟩,
    ⟨some 14, .call 195, [.t 13, .k (.s ⟨#[61]⟩)], none⟩,
    ⟨some 12, .pur .mov, [.t 14], none⟩,
    ⟨some 15, .pur (.extract 0), [.t 12], none⟩,
    ⟨some 16, .pur (.extract 1), [.t 12], none⟩,
    ⟨some 4, .pur .mov, [.t 15], none⟩,
    ⟨some 6, .pur .mov, [.t 16], none⟩]) <|
  .seq (.seq (.ops [
    ⟨some 17, .pur .mov, [.t 5], none⟩,
    ⟨some 18, .pur (.un .not), [.t 17], none⟩,
    ⟨some 19, .pur .mov, [.t 18], none⟩,
    ⟨some 20, .pur .mov, [.t 6], some (19, false)⟩,
    ⟨some 21, .pur (.un .not), [.t 20], some (19, false)⟩,
    ⟨some 22, .pur .pick, [.t 19, .k (.b true), .t 21], none⟩]) <|
  .cond (.t 22) (.seq (.ops [
      ⟨some 2, .pur .mov, [.k (.s ⟨#[]⟩)], none⟩,
      ⟨some 3, .pur .mov, [.k (.b false)], none⟩]) <|
    .ret) (.skip)) <|
  .seq (.ops [
    ⟨some 23, .pur .mov, [.t 4], none⟩,
    ⟨some 2, .pur .mov, [.t 23], none⟩,
    ⟨some 3, .pur .mov, [.k (.b true)], none⟩]) <|
  .ret
def f85 : AFunc := ⟨24, f85b, [.tmp 2, .tmp 3]⟩
/- 86 sluiceway/sluicewayref15.WordOf -/
def f86b : ACode :=
  .seq (.ops [
    ⟨some 1, .box .reg, [.t 0], none⟩,
    ⟨some 2, .pur .mov, [.k (.s ⟨#[]⟩)], none⟩,
    ⟨some 3, .pur .mov, [.k (.b false)], none⟩]) <|
  .seq (.seq (.ops [
    ⟨some 4, .pur (.faddr 0), [.t 1], none⟩,
    ⟨some 5, .ld (some 1) 1 false, [.t 4], none⟩,
    ⟨some 6, .pur (.bin .neq), [.t 5, .k (.i (1))], none⟩,
    ⟨some 7, .pur .mov, [.t 6], none⟩,
    ⟨some 8, .pur (.faddr 2), [.t 1], some (7, false)⟩,
    ⟨some 9, .ld (some 1) 1 false, [.t 8], some (7, false)⟩,
    ⟨some 10, .pur .lenL, [.t 9], some (7, false)⟩,
    ⟨some 11, .pur (.bin .gtr), [.t 10, .k (.i (0))], some (7, false)⟩,
    ⟨some 12, .pur .pick, [.t 7, .k (.b true), .t 11], none⟩,
    ⟨some 13, .pur .mov, [.t 12], none⟩,
    ⟨some 14, .pur (.faddr 1), [.t 1], some (13, false)⟩,
    ⟨some 15, .ld (some 1) 1 false, [.t 14], some (13, false)⟩,
    ⟨some 16, .pur (.bin .eql), [.t 15, .k (.s ⟨#[]⟩)], some (13, false)⟩,
    ⟨some 17, .pur .pick, [.t 13, .k (.b true), .t 16], none⟩,
    ⟨some 18, .pur .mov, [.t 17], none⟩,
    ⟨some 19, .pur (.faddr 1), [.t 1], some (18, false)⟩,
    ⟨some 20, .ld (some 1) 1 false, [.t 19], some (18, false)⟩,
    ⟨some 21, .pur .indexS, [.t 20, .k (.i (0))], some (18, false)⟩,
    ⟨some 22, .pur (.bin .neq), [.t 21, .k (.sc (.int .u8 (61)))], some (18, false)⟩,
    ⟨some 23, .pur .pick, [.t 18, .k (.b true), .t 22], none⟩]) <|
  .cond (.t 23) (.seq (.ops [
      ⟨some 2, .pur .mov, [.k (.s ⟨#[]⟩)], none⟩,
      ⟨some 3, .pur .mov, [.k (.b false)], none⟩]) <|
    .ret) (.skip)) <|
  .seq (.ops [
    ⟨some 24, .pur (.faddr 1), [.t 1], none⟩,
    ⟨some 25, .ld (some 1) 1 false, [.t 24], none⟩,
    ⟨some 26, .pur (.sliceS true false), [.t 25, .k (.i (1))], none⟩,
    ⟨some 2, .pur .mov, [.t 26], none⟩,
    ⟨some 3, .pur .mov, [.k (.b true)], none⟩]) <|
  .ret
def f86 : AFunc := ⟨27, f86b, [.tmp 2, .tmp 3]⟩
/- 87 sluiceway/message.NumberOf -/
def f87b : ACode :=
  .seq (.ops [
    ⟨some 1, .box .reg, [.t 0], none⟩,
    ⟨some 2, .pur .mov, [.k (.i (0))], none⟩,
    ⟨some 3, .pur .mov, [.k (.b false)], none⟩]) <|
  .seq (.ops [
    ⟨some 9, .ld (some 1) 3 true, [.t 1], none⟩,
    ⟨some 10, .call 85, [.t 9], none⟩,
    ⟨some 8, .pur .mov, [.t 10], none⟩,
    ⟨some 11, .pur (.extract 0), [.t 8], none⟩,
    ⟨some 12, .pur (.extract 1), [.t 8], none⟩,
    ⟨some 4, .pur .mov, [.t 11], none⟩,
    ⟨some 5, .pur .mov, [.t 12], none⟩]) <|
  .seq (.ops [
    ⟨some 14, .pur .mov, [.t 4], none⟩,
    ⟨some 15, .call 196, [.t 14], none⟩,
    ⟨some 13, .pur .mov, [.t 15], none⟩,
    ⟨some 16, .pur (.extract 0), [.t 13], none⟩,
    ⟨some 17, .pur (.extract 1), [.t 13], none⟩,
    ⟨some 6, .pur .mov, [.t 16], none⟩,
    ⟨some 7, .pur .mov, [.t 17], none⟩]) <|
  .seq (.seq (.ops [
    ⟨some 18, .pur .mov, [.t 5], none⟩,
    ⟨some 19, .pur (.un .not), [.t 18], none⟩,
    ⟨some 20, .pur .mov, [.t 19], none⟩,
    ⟨some 21, .pur .mov, [.t 7], some (20, false)⟩,
    ⟨some 22, .pur (.nilI true), [.t 21], some (20, false)⟩,
    ⟨some 23, .pur .pick, [.t 20, .k (.b true), .t 22], none⟩,
    ⟨some 24, .pur .mov, [.t 23], none⟩,
    ⟨some 25, .pur .mov, [.t 4], some (24, false)⟩,
    ⟨some 26, .pur .lenS, [.t 25], some (24, false)⟩,
    ⟨some 27, .pur (.bin .gtr), [.t 26, .k (.i (18))], some (24, false)⟩,
    ⟨some 28, .pur .pick, [.t 24, .k (.b true), .t 27], none⟩,
    ⟨some 29, .pur .mov, [.t 28], none⟩,
    ⟨some 30, .pur .mov, [.t 6], some (29, false)⟩,
    ⟨some 31, .call 193, [.t 30], some (29, false)⟩,
    ⟨some 32, .pur .mov, [.t 4], some (29, false)⟩,
    ⟨some 33, .pur (.bin .neq), [.t 31, .t 32], some (29, false)⟩,
    ⟨some 34, .pur .pick, [.t 29, .k (.b true), .t 33], none⟩]) <|
  .cond (.t 34) (.seq (.ops [
      ⟨some 2, .pur .mov, [.k (.i (0))], none⟩,
      ⟨some 3, .pur .mov, [.k (.b false)], none⟩]) <|
    .ret) (.skip)) <|
  .seq (.ops [
    ⟨some 35, .pur .mov, [.t 6], none⟩,
    ⟨some 2, .pur .mov, [.t 35], none⟩,
    ⟨some 3, .pur .mov, [.k (.b true)], none⟩]) <|
  .ret
def f87 : AFunc := ⟨36, f87b, [.tmp 2, .tmp 3]⟩
/- 88 sluiceway/sluicewayref15.NumberOf -/
def f88_l0 : ACode :=
  .seq (.seq (.ops [
    ⟨some 24, .pur .mov, [.t 7], none⟩,
    ⟨some 25, .pur .mov, [.t 4], none⟩,
    ⟨some 26, .pur .lenS, [.t 25], none⟩,
    ⟨some 27, .pur (.bin .lss), [.t 24, .t 26], none⟩]) <|
  .cond (.t 27) (.skip) (.exit 0)) <|
  .seq (.block 1 (.seq (.seq (.ops [
      ⟨some 30, .pur .mov, [.t 7], none⟩,
      ⟨some 31, .pur (.bin .eql), [.t 30, .k (.i (0))], none⟩,
      ⟨some 32, .pur .mov, [.t 31], none⟩,
      ⟨some 33, .pur .mov, [.t 4], some (32, true)⟩,
      ⟨some 34, .pur .mov, [.t 7], some (32, true)⟩,
      ⟨some 35, .pur .indexS, [.t 33, .t 34], some (32, true)⟩,
      ⟨some 36, .pur (.bin .eql), [.t 35, .k (.sc (.int .u8 (45)))], some (32, true)⟩,
      ⟨some 37, .pur .pick, [.t 32, .t 36, .k (.b false)], none⟩]) <|
    .cond (.t 37) (.exit 1) (.skip)) <|
    .seq (.seq (.ops [
      ⟨some 38, .pur .mov, [.t 4], none⟩,
      ⟨some 39, .pur .mov, [.t 7], none⟩,
      ⟨some 40, .pur .indexS, [.t 38, .t 39], none⟩,
      ⟨some 41, .pur (.bin .lss), [.t 40, .k (.sc (.int .u8 (48)))], none⟩,
      ⟨some 42, .pur .mov, [.t 41], none⟩,
      ⟨some 43, .pur .mov, [.t 4], some (42, false)⟩,
      ⟨some 44, .pur .mov, [.t 7], some (42, false)⟩,
      ⟨some 45, .pur .indexS, [.t 43, .t 44], some (42, false)⟩,
      ⟨some 46, .pur (.bin .gtr), [.t 45, .k (.sc (.int .u8 (57)))], some (42, false)⟩,
      ⟨some 47, .pur .pick, [.t 42, .k (.b true), .t 46], none⟩]) <|
    .cond (.t 47) (.seq (.ops [
        ⟨some 2, .pur .mov, [.k (.i (0))], none⟩,
        ⟨some 3, .pur .mov, [.k (.b false)], none⟩]) <|
      .ret) (.skip)) <|
    .ops [
      ⟨some 48, .pur .mov, [.t 6], none⟩,
      ⟨some 49, .pur (.bin .mul), [.t 48, .k (.i (10))], none⟩,
      ⟨some 50, .pur .mov, [.t 4], none⟩,
      ⟨some 51, .pur .mov, [.t 7], none⟩,
      ⟨some 52, .pur .indexS, [.t 50, .t 51], none⟩,
      ⟨some 53, .pur (.toInt .i64), [.t 52], none⟩,
      ⟨some 54, .pur (.bin .add), [.t 49, .t 53], none⟩,
      ⟨some 55, .pur (.bin .sub), [.t 54, .k (.i (48))], none⟩,
      ⟨some 6, .pur .mov, [.t 55], none⟩])) <|
  .ops [
    ⟨some 28, .pur .mov, [.t 7], none⟩,
    ⟨some 29, .pur (.bin .add), [.t 28, .k (.i (1))], none⟩,
    ⟨some 7, .pur .mov, [.t 29], none⟩]
def f88b : ACode :=
  .seq (.ops [
    ⟨some 1, .box .reg, [.t 0], none⟩,
    ⟨some 2, .pur .mov, [.k (.i (0))], none⟩,
    ⟨some 3, .pur .mov, [.k (.b false)], none⟩]) <|
  .seq (.ops [
    ⟨some 9, .ld (some 1) 3 true, [.t 1], none⟩,
    ⟨some 10, .call 86, [.t 9], none⟩,
    ⟨some 8, .pur .mov, [.t 10], none⟩,
    ⟨some 11, .pur (.extract 0), [.t 8], none⟩,
    ⟨some 12, .pur (.extract 1), [.t 8], none⟩,
    ⟨some 4, .pur .mov, [.t 11], none⟩,
    ⟨some 5, .pur .mov, [.t 12], none⟩]) <|
  .seq (.seq (.ops [
    ⟨some 13, .pur .mov, [.t 5], none⟩,
    ⟨some 14, .pur (.un .not), [.t 13], none⟩,
    ⟨some 15, .pur .mov, [.t 14], none⟩,
    ⟨some 16, .pur .mov, [.t 4], some (15, false)⟩,
    ⟨some 17, .pur (.bin .eql), [.t 16, .k (.s ⟨#[]⟩)], some (15, false)⟩,
    ⟨some 18, .pur .pick, [.t 15, .k (.b true), .t 17], none⟩,
    ⟨some 19, .pur .mov, [.t 18], none⟩,
    ⟨some 20, .pur .mov, [.t 4], some (19, false)⟩,
    ⟨some 21, .pur .lenS, [.t 20], some (19, false)⟩,
    ⟨some 22, .pur (.bin .gtr), [.t 21, .k (.i (18))], some (19, false)⟩,
    ⟨some 23, .pur .pick, [.t 19, .k (.b true), .t 22], none⟩]) <|
  .cond (.t 23) (.seq (.ops [
      ⟨some 2, .pur .mov, [.k (.i (0))], none⟩,
      ⟨some 3, .pur .mov, [.k (.b false)], none⟩]) <|
    .ret) (.skip)) <|
  .seq (.ops [
    ⟨some 6, .pur .mov, [.k (.i (0))], none⟩]) <|
  .seq (.seq (.ops [
    ⟨some 7, .pur .mov, [.k (.i (0))], none⟩]) <|
  .block 0 (.loop [2, 3, 24, 25, 26, 27, 28, 29, 30, 31, 32, 33, 34, 35, 36, 37, 38, 39, 40, 41, 42, 43, 44, 45, 46, 47, 48, 49, 50, 51, 52, 53, 54, 55] [] f88_l0)) <|
  .seq (.seq (.ops [
    ⟨some 56, .pur .mov, [.t 4], none⟩,
    ⟨some 57, .pur .indexS, [.t 56, .k (.i (0))], none⟩,
    ⟨some 58, .pur (.bin .eql), [.t 57, .k (.sc (.int .u8 (45)))], none⟩]) <|
  .cond (.t 58) (.ops [
      ⟨some 59, .pur .mov, [.t 6], none⟩,
      ⟨some 60, .pur (.un .neg), [.t 59], none⟩,
      ⟨some 6, .pur .mov, [.t 60], none⟩]) (.skip)) <|
  .seq (.seq (.ops [
    ⟨some 61, .pur .mov, [.t 6], none⟩,
    ⟨some 62, .call 139, [.t 61], none⟩,
    ⟨some 63, .pur .mov, [.t 4], none⟩,
    ⟨some 64, .pur (.bin .neq), [.t 62, .t 63], none⟩]) <|
  .cond (.t 64) (.seq (.ops [
      ⟨some 2, .pur .mov, [.k (.i (0))], none⟩,
      ⟨some 3, .pur .mov, [.k (.b false)], none⟩]) <|
    .ret) (.skip)) <|
  .seq (.ops [
    ⟨some 65, .pur .mov, [.t 6], none⟩,
    ⟨some 2, .pur .mov, [.t 65], none⟩,
    ⟨some 3, .pur .mov, [.k (.b true)], none⟩]) <|
  .ret
def f88 : AFunc := ⟨66, f88b, [.tmp 2, .tmp 3]⟩
/- 89 sluiceway/message.WordsOf -/
def f89_l0 : ACode :=
  .seq (.ops [
    ⟨some 21, .pur (.bin .lss), [.t 20, .t 19], none⟩]) <|
  .seq (.cond (.t 21) (.skip) (.exit 0)) <|
  .seq (.block 1 (.seq (.ops [
      ⟨some 22, .pur (.iaddr 3), [.t 18, .t 20], none⟩,
      ⟨some 23, .ld none 3 true, [.t 22], none⟩,
      ⟨some 6, .alloc .reg [.i (0), .s ⟨#[]⟩, .lst 0 true []], [], none⟩,
      ⟨none, .st (some 6) 3, [.t 6, .t 23], none⟩]) <|
    .seq (.ops [
      ⟨some 25, .ld (some 6) 3 true, [.t 6], none⟩,
      ⟨some 26, .call 85, [.t 25], none⟩,
      ⟨some 24, .pur .mov, [.t 26], none⟩,
      ⟨some 27, .pur (.extract 0), [.t 24], none⟩,
      ⟨some 28, .pur (.extract 1), [.t 24], none⟩,
      ⟨some 7, .pur .mov, [.t 27], none⟩,
      ⟨some 8, .pur .mov, [.t 28], none⟩]) <|
    .seq (.seq (.ops [
      ⟨some 29, .pur .mov, [.t 8], none⟩,
      ⟨some 30, .pur (.un .not), [.t 29], none⟩]) <|
    .cond (.t 30) (.seq (.ops [
        ⟨some 2, .pur .mov, [.k (.lst 0 true [])], none⟩,
        ⟨some 3, .pur .mov, [.k (.b false)], none⟩]) <|
      .ret) (.skip)) <|
    .ops [
      ⟨some 31, .pur .mov, [.t 4], none⟩,
      ⟨some 32, .pur .mov, [.t 7], none⟩,
      ⟨some 33, .pur (.buildSl 1 1 [.s ⟨#[]⟩] [0]), [.t 32], none⟩,
      ⟨some 34, .append 1 16, [.t 31, .t 33], none⟩,
      ⟨some 4, .pur .mov, [.t 34], none⟩])) <|
  .ops [
    ⟨some 35, .pur (.bin .add), [.t 20, .k (.i (1))], none⟩,
    ⟨some 20, .pur .mov, [.t 35], none⟩]
def f89b : ACode :=
  .seq (.ops [
    ⟨some 1, .box .reg, [.t 0], none⟩,
    ⟨some 2, .pur .mov, [.k (.lst 0 true [])], none⟩,
    ⟨some 3, .pur .mov, [.k (.b false)], none⟩]) <|
  .seq (.ops [
    ⟨some 4, .pur .mov, [.k (.lst 0 true [])], none⟩]) <|
  .seq (.seq (.ops [
    ⟨some 9, .pur (.faddr 0), [.t 1], none⟩,
    ⟨some 10, .ld (some 1) 1 false, [.t 9], none⟩,
    ⟨some 11, .pur (.bin .neq), [.t 10, .k (.i (3))], none⟩,
    ⟨some 12, .pur .mov, [.t 11], none⟩,
    ⟨some 13, .pur (.faddr 1), [.t 1], some (12, false)⟩,
    ⟨some 14, .ld (some 1) 1 false, [.t 13], some (12, false)⟩,
    ⟨some 15, .pur (.bin .neq), [.t 14, .k (.s ⟨#[]⟩)], some (12, false)⟩,
    ⟨some 16, .pur .pick, [.t 12, .k (.b true), .t 15], none⟩]) <|
  .cond (.t 16) (.seq (.ops [
      ⟨some 2, .pur .mov, [.k (.lst 0 true [])], none⟩,
      ⟨some 3, .pur .mov, [.k (.b false)], none⟩]) <|
    .ret) (.skip)) <|
  .seq (.seq (.ops [
    ⟨some 17, .pur (.faddr 2), [.t 1], none⟩,
    ⟨some 18, .ld (some 1) 1 false, [.t 17], none⟩,
    ⟨some 19, .pur .lenL, [.t 18], none⟩,
    ⟨some 20, .pur .mov, [.k (.i (0))], none⟩]) <|
  .block 0 (.loop [2, 3, 6, 7, 8, 21, 22, 23, 24, 25, 26, 27, 28, 29, 30, 31, 32, 33, 34, 35] [6] f89_l0)) <|
  .seq (.ops [
    ⟨some 36, .pur .mov, [.t 4], none⟩,
    ⟨some 2, .pur .mov, [.t 36], none⟩,
    ⟨some 3, .pur .mov, [.k (.b true)], none⟩]) <|
  .ret
def f89 : AFunc := ⟨37, f89b, [.tmp 2, .tmp 3]⟩
/- 90 sluiceway/sluicewayref15.WordsOf -/
def f90_l0 : ACode :=
  .seq (.seq (.ops [
    ⟨some 16, .pur .mov, [.t 5], none⟩,
    ⟨some 17, .pur (.faddr 2), [.t 1], none⟩,
    ⟨some 18, .ld (some 1) 1 false, [.t 17], none⟩,
    ⟨some 19, .pur .lenL, [.t 18], none⟩,
    ⟨some 20, .pur (.bin .lss), [.t 16, .t 19], none⟩]) <|
  .cond (.t 20) (.skip) (.exit 0)) <|
  .seq (.block 1 (.seq (.ops [
      ⟨some 24, .pur (.faddr 2), [.t 1], none⟩,
      ⟨some 25, .ld (some 1) 1 false, [.t 24], none⟩,
      ⟨some 26, .pur .mov, [.t 5], none⟩,
      ⟨some 27, .pur (.iaddr 3), [.t 25, .t 26], none⟩,
      ⟨some 28, .ld none 3 true, [.t 27], none⟩,
      ⟨some 29, .call 86, [.t 28], none⟩,
      ⟨some 23, .pur .mov, [.t 29], none⟩,
      ⟨some 30, .pur (.extract 0), [.t 23], none⟩,
      ⟨some 31, .pur (.extract 1), [.t 23], none⟩,
      ⟨some 6, .pur .mov, [.t 30], none⟩,
      ⟨some 7, .pur .mov, [.t 31], none⟩]) <|
    .seq (.seq (.ops [
      ⟨some 32, .pur .mov, [.t 7], none⟩,
      ⟨some 33, .pur (.un .not), [.t 32], none⟩]) <|
    .cond (.t 33) (.seq (.ops [
        ⟨some 2, .pur .mov, [.k (.lst 0 true [])], none⟩,
        ⟨some 3, .pur .mov, [.k (.b false)], none⟩]) <|
      .ret) (.skip)) <|
    .ops [
      ⟨some 34, .pur .mov, [.t 4], none⟩,
      ⟨some 35, .pur .mov, [.t 6], none⟩,
      ⟨some 36, .pur (.buildSl 1 1 [.s ⟨#[]⟩] [0]), [.t 35], none⟩,
      ⟨some 37, .append 1 16, [.t 34, .t 36], none⟩,
      ⟨some 4, .pur .mov, [.t 37], none⟩])) <|
  .ops [
    ⟨some 21, .pur .mov, [.t 5], none⟩,
    ⟨some 22, .pur (.bin .add), [.t 21, .k (.i (1))], none⟩,
    ⟨some 5, .pur .mov, [.t 22], none⟩]
def f90b : ACode :=
  .seq (.ops [
    ⟨some 1, .box .reg, [.t 0], none⟩,
    ⟨some 2, .pur .mov, [.k (.lst 0 true [])], none⟩,
    ⟨some 3, .pur .mov, [.k (.b false)], none⟩]) <|
  .seq (.seq (.ops [
    ⟨some 8, .pur (.faddr 0), [.t 1], none⟩,
    ⟨some 9, .ld (some 1) 1 false, [.t 8], none⟩,
    ⟨some 10, .pur (.bin .neq), [.t 9, .k (.i (3))], none⟩,
    ⟨some 11, .pur .mov, [.t 10], none⟩,
    ⟨some 12, .pur (.faddr 1), [.t 1], some (11, false)⟩,
    ⟨some 13, .ld (some 1) 1 false, [.t 12], some (11, false)⟩,
    ⟨some 14, .pur (.bin .neq), [.t 13, .k (.s ⟨#[]⟩)], some (11, false)⟩,
    ⟨some 15, .pur .pick, [.t 11, .k (.b true), .t 14], none⟩]) <|
  .cond (.t 15) (.seq (.ops [
      ⟨some 2, .pur .mov, [.k (.lst 0 true [])], none⟩,
      ⟨some 3, .pur .mov, [.k (.b false)], none⟩]) <|
    .ret) (.skip)) <|
  .seq (.ops [
    ⟨some 4, .pur .mov, [.k (.lst 0 true [])], none⟩]) <|
  .seq (.seq (.ops [
    ⟨some 5, .pur .mov, [.k (.i (0))], none⟩]) <|
  .block 0 (.loop [2, 3, 6, 7, 16, 17, 18, 19, 20, 21, 22, 23, 24, 25, 26, 27, 28, 29, 30, 31, 32, 33, 34, 35, 36, 37] [] f90_l0)) <|
  .seq (.ops [
    ⟨some 38, .pur .mov, [.t 4], none⟩,
    ⟨some 2, .pur .mov, [.t 38], none⟩,
    ⟨some 3, .pur .mov, [.k (.b true)], none⟩]) <|
  .ret
def f90 : AFunc := ⟨39, f90b, [.tmp 2, .tmp 3]⟩
/- 91 sluiceway/sluicewaylaw15.words -/
def f91_l0 : ACode :=
  .seq (.seq (.ops [
    ⟨some 11, .pur .mov, [.t 5], none⟩,
    ⟨some 12, .pur .mov, [.t 0], none⟩,
    ⟨some 13, .pur .lenL, [.t 12], none⟩,
    ⟨some 14, .pur (.bin .lss), [.t 11, .t 13], none⟩]) <|
  .cond (.t 14) (.skip) (.exit 0)) <|
  .seq (.block 1 (.seq (.ops [
      ⟨some 17, .pur .mov, [.t 0], none⟩,
      ⟨some 18, .pur .mov, [.t 5], none⟩,
      ⟨some 19, .pur (.iaddr 1), [.t 17, .t 18], none⟩,
      ⟨some 20, .ld none 1 false, [.t 19], none⟩,
      ⟨some 21, .pur .mov, [.t 1], none⟩,
      ⟨some 22, .pur .mov, [.t 5], none⟩,
      ⟨some 23, .pur (.iaddr 1), [.t 21, .t 22], none⟩,
      ⟨some 24, .ld none 1 false, [.t 23], none⟩,
      ⟨some 25, .pur (.bin .neq), [.t 20, .t 24], none⟩]) <|
    .cond (.t 25) (.seq (.ops [
        ⟨some 4, .pur .mov, [.k (.b false)], none⟩]) <|
      .ret) (.skip))) <|
  .ops [
    ⟨some 15, .pur .mov, [.t 5], none⟩,
    ⟨some 16, .pur (.bin .add), [.t 15, .k (.i (1))], none⟩,
    ⟨some 5, .pur .mov, [.t 16], none⟩]
def f91b : ACode :=
  .seq (.ops [
    ⟨some 4, .pur .mov, [.k (.b false)], none⟩]) <|
  .seq (.seq (.ops [
    ⟨some 6, .pur .mov, [.t 0], none⟩,
    ⟨some 7, .pur .lenL, [.t 6], none⟩,
    ⟨some 8, .pur .mov, [.t 1], none⟩,
    ⟨some 9, .pur .lenL, [.t 8], none⟩,
    ⟨some 10, .pur (.bin .neq), [.t 7, .t 9], none⟩]) <|
  .cond (.t 10) (.seq (.ops [
      ⟨some 4, .pur .mov, [.k (.b false)], none⟩]) <|
    .ret) (.skip)) <|
  .seq (.seq (.ops [
    ⟨some 5, .pur .mov, [.k (.i (0))], none⟩]) <|
  .block 0 (.loop [4, 11, 12, 13, 14, 15, 16, 17, 18, 19, 20, 21, 22, 23, 24, 25] [] f91_l0)) <|
  .seq (.ops [
    ⟨some 4, .pur .mov, [.k (.b true)], none⟩]) <|
  .ret
def f91 : AFunc := ⟨26, f91b, [.tmp 4]⟩
/- 92 sluiceway/message.BodyOf -/
def f92b : ACode :=
  .seq (.ops [
    ⟨some 1, .box .reg, [.t 0], none⟩,
    ⟨some 2, .pur .mov, [.k (.s ⟨#[]⟩)], none⟩,
    ⟨some 3, .pur .mov, [.k (.s ⟨#[]⟩)], none⟩,
    ⟨some 4, .pur .mov, [.k (.b false)], none⟩]) <|
  .seq (.ops [
    ⟨some 12, .ld (some 1) 3 true, [.t 1], none⟩,
    ⟨some 13, .call 78, [.k (.s ⟨#[98, 111, 100, 121]⟩), .k (.i (2)), .t 12], none⟩,
    ⟨some 11, .pur .mov, [.t 13], none⟩,
    ⟨some 14, .pur (.extract 0), [.t 11], none⟩,
    ⟨some 15, .pur (.extract 1), [.t 11], none⟩,
    ⟨some 5, .pur .mov, [.t 14], none⟩,
    ⟨some 6, .pur .mov, [.t 15], none⟩]) <|
  .seq (.seq (.ops [
    ⟨some 16, .pur .mov, [.t 6], none⟩,
    ⟨some 17, .pur (.un .not), [.t 16], none⟩]) <|
  .cond (.t 17) (.seq (.ops [
      ⟨some 2, .pur .mov, [.k (.s ⟨#[]⟩)], none⟩,
      ⟨some 3, .pur .mov, [.k (.s ⟨#[]⟩)], none⟩,
      ⟨some 4, .pur .mov, [.k (.b false)], none⟩]) <|
    .ret) (.skip)) <|
  .seq (.ops [
    ⟨some 19, .pur .mov, [.t 5], none⟩,
    ⟨some 20, .pur (.iaddr 3), [.t 19, .k (.i (0))], none⟩,
    ⟨some 21, .ld none 3 true, [.t 20], none⟩,
    ⟨some 22, .call 85, [.t 21], none⟩,
    ⟨some 18, .pur .mov, [.t 22], none⟩,
    ⟨some 23, .pur (.extract 0), [.t 18], none⟩,
    ⟨some 24, .pur (.extract 1), [.t 18], none⟩,
    ⟨some 7, .pur .mov, [.t 23], none⟩,
    ⟨some 8, .pur .mov, [.t 24], none⟩]) <|
  .seq (.ops [
    ⟨some 26, .pur .mov, [.t 5], none⟩,
    ⟨some 27, .pur (.iaddr 3), [.t 26, .k (.i (1))], none⟩,
    ⟨some 28, .ld none 3 true, [.t 27], none⟩,
    ⟨some 29, .call 85, [.t 28], none⟩,
    ⟨some 25, .pur .mov, [.t 29], none⟩,
    ⟨some 30, .pur (.extract 0), [.t 25], none⟩,
    ⟨some 31, .pur (.extract 1), [.t 25], none⟩,
    ⟨some 9, .pur .mov, [.t 30], none⟩,
    ⟨some 10, .pur .mov, [.t 31], none⟩]) <|
  .seq (.seq (.ops [
    ⟨some 32, .pur .mov, [.t 8], none⟩,
    ⟨some 33, .pur (.un .not), [.t 32], none⟩,
    ⟨some 34, .pur .mov, [.t 33], none⟩,
    ⟨some 35, .pur .mov, [.t 10], some (34, false)⟩,
    ⟨some 36, .pur (.un .not), [.t 35], some (34, false)⟩,
    ⟨some 37, .pur .pick, [.t 34, .k (.b true), .t 36], none⟩,
    ⟨some 38, .pur .mov, [.t 37], none⟩,
    ⟨some 39, .pur .mov, [.t 7], some (38, false)⟩,
    ⟨some 40, .pur (.bin .eql), [.t 39, .k (.s ⟨#[]⟩)], some (38, false)⟩,
    ⟨some 41, .pur .pick, [.t 38, .k (.b true), .t 40], none⟩,
    ⟨some 42, .pur .mov, [.t 41], none⟩,
    ⟨some 43, .pur .mov, [.t 9], some (42, false)⟩,
    ⟨some 44, .pur (.bin .eql), [.t 43, .k (.s ⟨#[]⟩)], some (42, false)⟩,
    ⟨some 45, .pur .pick, [.t 42, .k (.b true), .t 44], none⟩]) <|
  .cond (.t 45) (.seq (.ops [
      ⟨some 2, .pur .mov, [.k (.s ⟨#[]⟩)], none⟩,
      ⟨some 3, .pur .mov, [.k (.s ⟨#[]⟩)], none⟩,
      ⟨some 4, .pur .mov, [.k (.b false)], none⟩]) <|
    .ret) (.skip)) <|
  .seq (.ops [
    ⟨some 46, .pur .mov, [.t 7], none⟩,
    ⟨some 47, .pur .mov, [.t 9], none⟩,
    ⟨some 2, .pur .mov, [.t 46], none⟩,
    ⟨some 3, .pur .mov, [.t 47], none⟩,
    ⟨some 4, .pur .mov, [.k (.b true)], none⟩]) <|
  .ret
def f92 : AFunc := ⟨48, f92b, [.tmp 2, .tmp 3, .tmp 4]⟩
/- 93 sluiceway/sluicewayref15.BodyOf -/
def f93b : ACode :=
  .seq (.ops [
    ⟨some 1, .box .reg, [.t 0], none⟩,
    ⟨some 2, .pur .mov, [.k (.s ⟨#[]⟩)], none⟩,
    ⟨some 3, .pur .mov, [.k (.s ⟨#[]⟩)], none⟩,
    ⟨some 4, .pur .mov, [.k (.b false)], none⟩]) <|
  .seq (.ops [
    ⟨some 12, .ld (some 1) 3 true, [.t 1], none⟩,
    ⟨some 13, .call 79, [.k (.s ⟨#[98, 111, 100, 121]⟩), .k (.i (2)), .t 12], none⟩,
    ⟨some 11, .pur .mov, [.t 13], none⟩,
    ⟨some 14, .pur (.extract 0), [.t 11], none⟩,
    ⟨some 15, .pur (.extract 1), [.t 11], none⟩,
    ⟨some 5, .pur .mov, [.t 14], none⟩,
    ⟨some 6, .pur .mov, [.t 15], none⟩]) <|
  .seq (.seq (.ops [
    ⟨some 16, .pur .mov, [.t 6], none⟩,
    ⟨some 17, .pur (.un .not), [.t 16], none⟩]) <|
  .cond (.t 17) (.seq (.ops [
      ⟨some 2, .pur .mov, [.k (.s ⟨#[]⟩)], none⟩,
      ⟨some 3, .pur .mov, [.k (.s ⟨#[]⟩)], none⟩,
      ⟨some 4, .pur .mov, [.k (.b false)], none⟩]) <|
    .ret) (.skip)) <|
  .seq (.ops [
    ⟨some 19, .pur .mov, [.t 5], none⟩,
    ⟨some 20, .pur (.iaddr 3), [.t 19, .k (.i (0))], none⟩,
    ⟨some 21, .ld none 3 true, [.t 20], none⟩,
    ⟨some 22, .call 86, [.t 21], none⟩,
    ⟨some 18, .pur .mov, [.t 22], none⟩,
    ⟨some 23, .pur (.extract 0), [.t 18], none⟩,
    ⟨some 24, .pur (.extract 1), [.t 18], none⟩,
    ⟨some 7, .pur .mov, [.t 23], none⟩,
    ⟨some 8, .pur .mov, [.t 24], none⟩]) <|
  .seq (.ops [
    ⟨some 26, .pur .mov, [.t 5], none⟩,
    ⟨some 27, .pur (.iaddr 3), [.t 26, .k (.i (1))], none⟩,
    ⟨some 28, .ld none 3 true, [.t 27], none⟩,
    ⟨some 29, .call 86, [.t 28], none⟩,
    ⟨some 25, .pur .mov, [.t 29], none⟩,
    ⟨some 30, .pur (.extract 0), [.t 25], none⟩,
    ⟨some 31, .pur (.extract 1), [.t 25], none⟩,
    ⟨some 9, .pur .mov, [.t 30], none⟩,
    ⟨some 10, .pur .mov, [.t 31], none⟩]) <|
  .seq (.seq (.ops [
    ⟨some 32, .pur .mov, [.t 8], none⟩,
    ⟨some 33, .pur (.un .not), [.t 32], none⟩,
    ⟨some 34, .pur .mov, [.t 33], none⟩,
    ⟨some 35, .pur .mov, [.t 10], some (34, false)⟩,
    ⟨some 36, .pur (.un .not), [.t 35], some (34, false)⟩,
    ⟨some 37, .pur .pick, [.t 34, .k (.b true), .t 36], none⟩,
    ⟨some 38, .pur .mov, [.t 37], none⟩,
    ⟨some 39, .pur .mov, [.t 7], some (38, false)⟩,
    ⟨some 40, .pur (.bin .eql), [.t 39, .k (.s ⟨#[]⟩)], some (38, false)⟩,
    ⟨some 41, .pur .pick, [.t 38, .k (.b true), .t 40], none⟩,
    ⟨some 42, .pur .mov, [.t 41], none⟩,
    ⟨some 43, .pur .mov, [.t 9], some (42, false)⟩,
    ⟨some 44, .pur (.bin .eql), [.t 43, .k (.s ⟨#[]⟩)], some (42, false)⟩,
    ⟨some 45, .pur .pick, [.t 42, .k (.b true), .t 44], none⟩]) <|
  .cond (.t 45) (.seq (.ops [
      ⟨some 2, .pur .mov, [.k (.s ⟨#[]⟩)], none⟩,
      ⟨some 3, .pur .mov, [.k (.s ⟨#[]⟩)], none⟩,
      ⟨some 4, .pur .mov, [.k (.b false)], none⟩]) <|
    .ret) (.skip)) <|
  .seq (.ops [
    ⟨some 46, .pur .mov, [.t 7], none⟩,
    ⟨some 47, .pur .mov, [.t 9], none⟩,
    ⟨some 2, .pur .mov, [.t 46], none⟩,
    ⟨some 3, .pur .mov, [.t 47], none⟩,
    ⟨some 4, .pur .mov, [.k (.b true)], none⟩]) <|
  .ret
def f93 : AFunc := ⟨48, f93b, [.tmp 2, .tmp 3, .tmp 4]⟩
/- 94 sluiceway/message.AskOf -/
def f94b : ACode :=
  .seq (.ops [
    ⟨some 1, .box .reg, [.t 0], none⟩,
    ⟨some 2, .alloc .reg [.i (0), .s ⟨#[]⟩, .lst 0 true []], [], none⟩,
    ⟨some 3, .alloc .reg [.i (0), .s ⟨#[]⟩, .lst 0 true []], [], none⟩,
    ⟨some 4, .alloc .reg [.i (0), .s ⟨#[]⟩, .lst 0 true []], [], none⟩,
    ⟨some 5, .pur .mov, [.k (.b false)], none⟩]) <|
  .seq (.ops [
    ⟨some 8, .ld (some 1) 3 true, [.t 1], none⟩,
    ⟨some 9, .call 78, [.k (.s ⟨#[97, 115, 45, 114, 101, 113]⟩), .k (.i (3)), .t 8], none⟩,
    ⟨some 7, .pur .mov, [.t 9], none⟩,
    ⟨some 10, .pur (.extract 0), [.t 7], none⟩,
    ⟨some 11, .pur (.extract 1), [.t 7], none⟩,
    ⟨some 6, .pur .mov, [.t 10], none⟩,
    ⟨some 5, .pur .mov, [.t 11], none⟩]) <|
  .seq (.seq (.ops [
    ⟨some 12, .pur .mov, [.t 5], none⟩,
    ⟨some 13, .pur (.un .not), [.t 12], none⟩]) <|
  .cond (.t 13) (.seq (.ops [
      ⟨some 14, .ld (some 2) 3 true, [.t 2], none⟩,
      ⟨some 15, .ld (some 3) 3 true, [.t 3], none⟩,
      ⟨some 16, .ld (some 4) 3 true, [.t 4], none⟩,
      ⟨none, .st (some 2) 3, [.t 2, .t 14], none⟩,
      ⟨none, .st (some 3) 3, [.t 3, .t 15], none⟩,
      ⟨none, .st (some 4) 3, [.t 4, .t 16], none⟩,
      ⟨some 5, .pur .mov, [.k (.b false)], none⟩]) <|
    .ret) (.skip)) <|
  .seq (.ops [
    ⟨some 17, .pur .mov, [.t 6], none⟩,
    ⟨some 18, .pur (.iaddr 3), [.t 17, .k (.i (0))], none⟩,
    ⟨some 19, .ld none 3 true, [.t 18], none⟩,
    ⟨some 20, .pur .mov, [.t 6], none⟩,
    ⟨some 21, .pur (.iaddr 3), [.t 20, .k (.i (1))], none⟩,
    ⟨some 22, .ld none 3 true, [.t 21], none⟩,
    ⟨some 23, .pur .mov, [.t 6], none⟩,
    ⟨some 24, .pur (.iaddr 3), [.t 23, .k (.i (2))], none⟩,
    ⟨some 25, .ld none 3 true, [.t 24], none⟩,
    ⟨none, .st (some 2) 3, [.t 2, .t 19], none⟩,
    ⟨none, .st (some 3) 3, [.t 3, .t 22], none⟩,
    ⟨none, .st (some 4) 3, [.t 4, .t 25], none⟩,
    ⟨some 5, .pur .mov, [.k (.b true)], none⟩]) <|
  .ret
def f94 : AFunc := ⟨26, f94b, [.cell 2 3 true, .cell 3 3 true, .cell 4 3 true, .tmp 5]⟩
/- 95 sluiceway/sluicewayref15.AskOf -/
def f95b : ACode :=
  .seq (.ops [
    ⟨some 1, .box .reg, [.t 0], none⟩,
    ⟨some 2, .alloc .reg [.i (0), .s ⟨#[]⟩, .lst 0 true []], [], none⟩,
    ⟨some 3, .alloc .reg [.i (0), .s ⟨#[]⟩, .lst 0 true []], [], none⟩,
    ⟨some 4, .alloc .reg [.i (0), .s ⟨#[]⟩, .lst 0 true []], [], none⟩,
    ⟨some 5, .pur .mov, [.k (.b false)], none⟩]) <|
  .seq (.ops [
    ⟨some 9, .ld (some 1) 3 true, [.t 1], none⟩,
    ⟨some 10, .call 79, [.k (.s ⟨#[97, 115, 45, 114, 101, 113]⟩), .k (.i (3)), .t 9], none⟩,
    ⟨some 8, .pur .mov, [.t 10], none⟩,
    ⟨some 11, .pur (.extract 0), [.t 8], none⟩,
    ⟨some 12, .pur (.extract 1), [.t 8], none⟩,
    ⟨some 6, .pur .mov, [.t 11], none⟩,
    ⟨some 7, .pur .mov, [.t 12], none⟩]) <|
  .seq (.seq (.ops [
    ⟨some 13, .pur .mov, [.t 7], none⟩,
    ⟨some 14, .pur (.un .not), [.t 13], none⟩]) <|
  .cond (.t 14) (.seq (.ops [
      ⟨some 15, .pur (.build [.i (0), .s ⟨#[]⟩, .lst 0 true []] []), [], none⟩,
      ⟨some 16, .pur (.build [.i (0), .s ⟨#[]⟩, .lst 0 true []] []), [], none⟩,
      ⟨some 17, .pur (.build [.i (0), .s ⟨#[]⟩, .lst 0 true []] []), [], none⟩,
      ⟨none, .st (some 2) 3, [.t 2, .t 15], none⟩,
      ⟨none, .st (some 3) 3, [.t 3, .t 16], none⟩,
      ⟨none, .st (some 4) 3, [.t 4, .t 17], none⟩,
      ⟨some 5, .pur .mov, [.k (.b false)], none⟩]) <|
    .ret) (.skip)) <|
  .seq (.ops [
    ⟨some 18, .pur .mov, [.t 6], none⟩,
    ⟨some 19, .pur (.iaddr 3), [.t 18, .k (.i (0))], none⟩,
    ⟨some 20, .ld none 3 true, [.t 19], none⟩,
    ⟨some 21, .pur .mov, [.t 6], none⟩,
    ⟨some 22, .pur (.iaddr 3), [.t 21, .k (.i (1))], none⟩,
    ⟨some 23, .ld none 3 true, [.t 22], none⟩,
    ⟨some 24, .pur .mov, [.t 6], none⟩,
    ⟨some 25, .pur (.iaddr 3), [.t 24, .k (.i (2))], none⟩,
    ⟨some 26, .ld none 3 true, [.t 25], none⟩,
    ⟨none, .st (some 2) 3, [.t 2, .t 20], none⟩,
    ⟨none, .st (some 3) 3, [.t 3, .t 23], none⟩,
    ⟨none, .st (some 4) 3, [.t 4, .t 26], none⟩,
    ⟨some 5, .pur .mov, [.k (.b true)], none⟩]) <|
  .ret
def f95 : AFunc := ⟨27, f95b, [.cell 2 3 true, .cell 3 3 true, .cell 4 3 true, .tmp 5]⟩
/- 96 sluiceway/message.RefuseOf -/
def f96b : ACode :=
  .seq (.ops [
    ⟨some 1, .box .reg, [.t 0], none⟩,
    ⟨some 2, .pur .mov, [.k (.i (0))], none⟩,
    ⟨some 3, .pur .mov, [.k (.b false)], none⟩]) <|
  .seq (.ops [
    ⟨some 8, .ld (some 1) 3 true, [.t 1], none⟩,
    ⟨some 9, .call 78, [.k (.s ⟨#[101, 114, 114, 111, 114]⟩), .k (.i (1)), .t 8], none⟩,
    ⟨some 7, .pur .mov, [.t 9], none⟩,
    ⟨some 10, .pur (.extract 0), [.t 7], none⟩,
    ⟨some 11, .pur (.extract 1), [.t 7], none⟩,
    ⟨some 4, .pur .mov, [.t 10], none⟩,
    ⟨some 5, .pur .mov, [.t 11], none⟩]) <|
  .seq (.seq (.ops [
    ⟨some 12, .pur .mov, [.t 5], none⟩,
    ⟨some 13, .pur (.un .not), [.t 12], none⟩]) <|
  .cond (.t 13) (.seq (.ops [
      ⟨some 2, .pur .mov, [.k (.i (0))], none⟩,
      ⟨some 3, .pur .mov, [.k (.b false)], none⟩]) <|
    .ret) (.skip)) <|
  .seq (.ops [
    ⟨some 15, .pur .mov, [.t 4], none⟩,
    ⟨some 16, .pur (.iaddr 3), [.t 15, .k (.i (0))], none⟩,
    ⟨some 17, .ld none 3 true, [.t 16], none⟩,
    ⟨some 18, .call 87, [.t 17], none⟩,
    ⟨some 14, .pur .mov, [.t 18], none⟩,
    ⟨some 19, .pur (.extract 0), [.t 14], none⟩,
    ⟨some 20, .pur (.extract 1), [.t 14], none⟩,
    ⟨some 6, .pur .mov, [.t 19], none⟩,
    ⟨some 5, .pur .mov, [.t 20], none⟩]) <|
  .seq (.seq (.ops [
    ⟨some 21, .pur .mov, [.t 5], none⟩,
    ⟨some 22, .pur (.un .not), [.t 21], none⟩,
    ⟨some 23, .pur .mov, [.t 22], none⟩,
    ⟨some 24, .pur .mov, [.t 6], some (23, false)⟩,
    ⟨some 25, .pur (.bin .lss), [.t 24, .k (.i (1))], some (23, false)⟩,
    ⟨some 26, .pur .pick, [.t 23, .k (.b true), .t 25], none⟩]) <|
  .cond (.t 26) (.seq (.ops [
      ⟨some 2, .pur .mov, [.k (.i (0))], none⟩,
      ⟨some 3, .pur .mov, [.k (.b false)], none⟩]) <|
    .ret) (.skip)) <|
  .seq (.ops [
    ⟨some 27, .pur .mov, [.t 6], none⟩,
    ⟨some 2, .pur .mov, [.t 27], none⟩,
    ⟨some 3, .pur .mov, [.k (.b true)], none⟩]) <|
  .ret
def f96 : AFunc := ⟨28, f96b, [.tmp 2, .tmp 3]⟩
/- 97 sluiceway/sluicewayref15.RefuseOf -/
def f97b : ACode :=
  .seq (.ops [
    ⟨some 1, .box .reg, [.t 0], none⟩,
    ⟨some 2, .pur .mov, [.k (.i (0))], none⟩,
    ⟨some 3, .pur .mov, [.k (.b false)], none⟩]) <|
  .seq (.ops [
    ⟨some 9, .ld (some 1) 3 true, [.t 1], none⟩,
    ⟨some 10, .call 79, [.k (.s ⟨#[101, 114, 114, 111, 114]⟩), .k (.i (1)), .t 9], none⟩,
    ⟨some 8, .pur .mov, [.t 10], none⟩,
    ⟨some 11, .pur (.extract 0), [.t 8], none⟩,
    ⟨some 12, .pur (.extract 1), [.t 8], none⟩,
    ⟨some 4, .pur .mov, [.t 11], none⟩,
    ⟨some 5, .pur .mov, [.t 12], none⟩]) <|
  .seq (.seq (.ops [
    ⟨some 13, .pur .mov, [.t 5], none⟩,
    ⟨some 14, .pur (.un .not), [.t 13], none⟩]) <|
  .cond (.t 14) (.seq (.ops [
      ⟨some 2, .pur .mov, [.k (.i (0))], none⟩,
      ⟨some 3, .pur .mov, [.k (.b false)], none⟩]) <|
    .ret) (.skip)) <|
  .seq (.ops [
    ⟨some 16, .pur .mov, [.t 4], none⟩,
    ⟨some 17, .pur (.iaddr 3), [.t 16, .k (.i (0))], none⟩,
    ⟨some 18, .ld none 3 true, [.t 17], none⟩,
    ⟨some 19, .call 88, [.t 18], none⟩,
    ⟨some 15, .pur .mov, [.t 19], none⟩,
    ⟨some 20, .pur (.extract 0), [.t 15], none⟩,
    ⟨some 21, .pur (.extract 1), [.t 15], none⟩,
    ⟨some 6, .pur .mov, [.t 20], none⟩,
    ⟨some 7, .pur .mov, [.t 21], none⟩]) <|
  .seq (.seq (.ops [
    ⟨some 22, .pur .mov, [.t 7], none⟩,
    ⟨some 23, .pur (.un .not), [.t 22], none⟩,
    ⟨some 24, .pur .mov, [.t 23], none⟩,
    ⟨some 25, .pur .mov, [.t 6], some (24, false)⟩,
    ⟨some 26, .pur (.bin .lss), [.t 25, .k (.i (1))], some (24, false)⟩,
    ⟨some 27, .pur .pick, [.t 24, .k (.b true), .t 26], none⟩]) <|
  .cond (.t 27) (.seq (.ops [
      ⟨some 2, .pur .mov, [.k (.i (0))], none⟩,
      ⟨some 3, .pur .mov, [.k (.b false)], none⟩]) <|
    .ret) (.skip)) <|
  .seq (.ops [
    ⟨some 28, .pur .mov, [.t 6], none⟩,
    ⟨some 2, .pur .mov, [.t 28], none⟩,
    ⟨some 3, .pur .mov, [.k (.b true)], none⟩]) <|
  .ret
def f97 : AFunc := ⟨29, f97b, [.tmp 2, .tmp 3]⟩
/- 107 sluiceway/sluicewaylaw14.shown -/
def f107b : ACode :=
  .seq (.ops [
    ⟨some 0, .pur .mov, [.k (.b false)], none⟩]) <|
  .seq (.ops [
    ⟨some 12, .call 122, [.k (.s ⟨#[107]⟩)], none⟩,
    ⟨some 1, .alloc .reg [.i (0), .s ⟨#[]⟩, .lst 0 true []], [], none⟩,
    ⟨none, .st (some 1) 3, [.t 1, .t 12], none⟩]) <|
  .seq (.ops [
    ⟨some 13, .call 122, [.k (.s ⟨#[120]⟩)], none⟩,
    ⟨some 14, .pur (.build [.s ⟨#[]⟩, .s ⟨#[]⟩, .lst 0 true [], .i (0), .s ⟨#[]⟩, .lst 0 true [], .i (0)] [(0, 1), (1, 1), (3, 3), (6, 1)]), [.k (.s ⟨#[97]⟩), .k (.s ⟨#[49]⟩), .t 13, .k (.i (9))], none⟩,
    ⟨some 2, .alloc .reg [.s ⟨#[]⟩, .s ⟨#[]⟩, .lst 0 true [], .i (0), .s ⟨#[]⟩, .lst 0 true [], .i (0)], [], none⟩,
    ⟨none, .st (some 2) 7, [.t 2, .t 14], none⟩]) <|
  .seq (.ops [
    ⟨some 15, .ld (some 1) 3 true, [.t 1], none⟩,
    ⟨some 16, .ld (some 2) 7 true, [.t 2], none⟩,
    ⟨some 17, .call 109, [.t 15, .t 16], none⟩,
    ⟨some 3, .alloc .reg [.i (0), .s ⟨#[]⟩, .lst 0 true []], [], none⟩,
    ⟨none, .st (some 3) 3, [.t 3, .t 17], none⟩]) <|
  .seq (.ops [
    ⟨some 19, .ld (some 1) 3 true, [.t 1], none⟩,
    ⟨some 20, .ld (some 3) 3 true, [.t 3], none⟩,
    ⟨some 21, .call 112, [.t 19, .t 20, .k (.i (9))], none⟩,
    ⟨some 18, .pur .mov, [.t 21], none⟩,
    ⟨some 22, .pur (.extract 0), [.t 18], none⟩,
    ⟨some 23, .pur (.extract 1), [.t 18], none⟩,
    ⟨some 4, .alloc .reg [.s ⟨#[]⟩, .s ⟨#[]⟩, .lst 0 true [], .i (0), .s ⟨#[]⟩, .lst 0 true [], .i (0)], [], none⟩,
    ⟨none, .st (some 4) 7, [.t 4, .t 22], none⟩,
    ⟨some 5, .pur .mov, [.t 23], none⟩]) <|
  .seq (.ops [
    ⟨some 25, .ld (some 1) 3 true, [.t 1], none⟩,
    ⟨some 26, .ld (some 3) 3 true, [.t 3], none⟩,
    ⟨some 27, .call 112, [.t 25, .t 26, .k (.i (10))], none⟩,
    ⟨some 24, .pur .mov, [.t 27], none⟩,
    ⟨some 28, .pur (.extract 0), [.t 24], none⟩,
    ⟨some 29, .pur (.extract 1), [.t 24], none⟩,
    ⟨some 6, .alloc .reg [.s ⟨#[]⟩, .s ⟨#[]⟩, .lst 0 true [], .i (0), .s ⟨#[]⟩, .lst 0 true [], .i (0)], [], none⟩,
    ⟨none, .st (some 6) 7, [.t 6, .t 28], none⟩,
    ⟨some 7, .pur .mov, [.t 29], none⟩]) <|
  .seq (.ops [
    ⟨some 31, .call 122, [.k (.s ⟨#[106]⟩)], none⟩,
    ⟨some 32, .ld (some 3) 3 true, [.t 3], none⟩,
    ⟨some 33, .call 112, [.t 31, .t 32, .k (.i (1))], none⟩,
    ⟨some 30, .pur .mov, [.t 33], none⟩,
    ⟨some 34, .pur (.extract 0), [.t 30], none⟩,
    ⟨some 35, .pur (.extract 1), [.t 30], none⟩,
    ⟨some 8, .alloc .reg [.s ⟨#[]⟩, .s ⟨#[]⟩, .lst 0 true [], .i (0), .s ⟨#[]⟩, .lst 0 true [], .i (0)], [], none⟩,
    ⟨none, .st (some 8) 7, [.t 8, .t 34], none⟩,
    ⟨some 9, .pur .mov, [.t 35], none⟩]) <|
  .seq (.ops [
    ⟨some 37, .ld (some 1) 3 true, [.t 1], none⟩,
    ⟨some 38, .ld (some 1) 3 true, [.t 1], none⟩,
    ⟨some 39, .call 112, [.t 37, .t 38, .k (.i (1))], none⟩,
    ⟨some 36, .pur .mov, [.t 39], none⟩,
    ⟨some 40, .pur (.extract 0), [.t 36], none⟩,
    ⟨some 41, .pur (.extract 1), [.t 36], none⟩,
    ⟨some 10, .alloc .reg [.s ⟨#[]⟩, .s ⟨#[]⟩, .lst 0 true [], .i (0), .s ⟨#[]⟩, .lst 0 true [], .i (0)], [], none⟩,
    ⟨none, .st (some 10) 7, [.t 10, .t 40], none⟩,
    ⟨some 11, .pur .mov, [.t 41], none⟩]) <|
  .seq (.ops [
    ⟨some 42, .ld (some 3) 3 true, [.t 3], none⟩,
    ⟨some 43, .call 121, [.t 42], none⟩,
    ⟨some 44, .pur (.bin .eql), [.t 43, .k (.s ⟨#[101, 40, 97, 49, 58, 107, 44, 112, 40, 100, 54, 58, 99, 111, 111, 107, 105, 101, 44, 100, 50, 58, 99, 97, 44, 100, 50, 58, 110, 49, 44, 112, 40, 41, 44, 97, 49, 58, 120, 44, 100, 50, 58, 117, 57, 41, 41]⟩)], none⟩,
    ⟨some 45, .pur .mov, [.t 44], none⟩,
    ⟨some 46, .ld (some 2) 7 true, [.t 2], some (45, true)⟩,
    ⟨some 47, .ld (some 4) 7 true, [.t 4], some (45, true)⟩,
    ⟨some 48, .call 115, [.t 46, .t 47], some (45, true)⟩,
    ⟨some 49, .pur .pick, [.t 45, .t 48, .k (.b false)], none⟩,
    ⟨some 50, .pur .mov, [.t 49], none⟩,
    ⟨some 51, .pur .mov, [.t 5], some (50, true)⟩,
    ⟨some 52, .pur (.bin .eql), [.t 51, .k (.i (0))], some (50, true)⟩,
    ⟨some 53, .pur .pick, [.t 50, .t 52, .k (.b false)], none⟩,
    ⟨some 54, .pur .mov, [.t 53], none⟩,
    ⟨some 55, .pur .mov, [.t 7], some (54, true)⟩,
    ⟨some 56, .pur (.bin .eql), [.t 55, .k (.i (5))], some (54, true)⟩,
    ⟨some 57, .pur .pick, [.t 54, .t 56, .k (.b false)], none⟩,
    ⟨some 58, .pur .mov, [.t 57], none⟩,
    ⟨some 59, .pur .mov, [.t 9], some (58, true)⟩,
    ⟨some 60, .pur (.bin .eql), [.t 59, .k (.i (4))], some (58, true)⟩,
    ⟨some 61, .pur .pick, [.t 58, .t 60, .k (.b false)], none⟩,
    ⟨some 62, .pur .mov, [.t 61], none⟩,
    ⟨some 63, .pur .mov, [.t 11], some (62, true)⟩,
    ⟨some 64, .pur (.bin .eql), [.t 63, .k (.i (2))], some (62, true)⟩,
    ⟨some 65, .pur .pick, [.t 62, .t 64, .k (.b false)], none⟩,
    ⟨some 0, .pur .mov, [.t 65], none⟩]) <|
  .ret
def f107 : AFunc := ⟨66, f107b, [.tmp 0]⟩
/- 108 sluiceway/sluicewaylaw14.small -/
def f108b : ACode :=
  .seq (.ops [
    ⟨some 1, .box .reg, [.t 0], none⟩,
    ⟨some 2, .pur .mov, [.k (.b false)], none⟩]) <|
  .seq (.ops [
    ⟨some 3, .ld (some 1) 3 true, [.t 1], none⟩,
    ⟨some 4, .call 209, [.t 3], none⟩,
    ⟨some 5, .pur (.bin .leq), [.t 4, .k (.i (60))], none⟩,
    ⟨some 2, .pur .mov, [.t 5], none⟩]) <|
  .ret
def f108 : AFunc := ⟨6, f108b, [.tmp 2]⟩
/- 109 sluiceway/cookie.Seal -/
def f109_l0 : ACode :=
  .seq (.ops [
    ⟨some 23, .pur (.bin .lss), [.t 22, .t 21], none⟩]) <|
  .seq (.cond (.t 23) (.skip) (.exit 0)) <|
  .seq (.block 1 (.seq (.ops [
      ⟨some 24, .pur (.iaddr 1), [.t 20, .t 22], none⟩,
      ⟨some 25, .ld none 1 false, [.t 24], none⟩,
      ⟨some 7, .pur .mov, [.t 25], none⟩]) <|
    .ops [
      ⟨some 26, .pur .mov, [.t 5], none⟩,
      ⟨some 27, .pur .mov, [.t 7], none⟩,
      ⟨some 28, .pur (.bin .add), [.k (.s ⟨#[100]⟩), .t 27], none⟩,
      ⟨some 29, .call 192, [.t 28], none⟩,
      ⟨some 30, .pur (.buildSl 3 1 [.i (0), .s ⟨#[]⟩, .lst 0 true []] [0]), [.t 29], none⟩,
      ⟨some 31, .append 3 48, [.t 26, .t 30], none⟩,
      ⟨some 5, .pur .mov, [.t 31], none⟩])) <|
  .ops [
    ⟨some 32, .pur (.bin .add), [.t 22, .k (.i (1))], none⟩,
    ⟨some 22, .pur .mov, [.t 32], none⟩]
def f109b : ACode :=
  .seq (.ops [
    ⟨some 2, .box .reg, [.t 0], none⟩,
    ⟨some 3, .box .reg, [.t 1], none⟩,
    ⟨some 4, .alloc .reg [.i (0), .s ⟨#[]⟩, .lst 0 true []], [], none⟩]) <|
  .seq (.seq (.ops [
    ⟨some 9, .ld (some 2) 3 true, [.t 2], none⟩,
    ⟨some 10, .call 210, [.t 9], none⟩,
    ⟨some 11, .pur (.un .not), [.t 10], none⟩,
    ⟨some 12, .pur .mov, [.t 11], none⟩,
    ⟨some 13, .pur (.faddr 3), [.t 3], some (12, false)⟩,
    ⟨some 14, .ld (some 3) 3 true, [.t 13], some (12, false)⟩,
    ⟨some 15, .call 210, [.t 14], some (12, false)⟩,
    ⟨some 16, .pur (.un .not), [.t 15], some (12, false)⟩,
    ⟨some 17, .pur .pick, [.t 12, .k (.b true), .t 16], none⟩]) <|
  .cond (.t 17) (.seq (.ops [
      ⟨some 18, .pur (.build [.i (0), .s ⟨#[]⟩, .lst 0 true []] []), [], none⟩,
      ⟨none, .st (some 4) 3, [.t 4, .t 18], none⟩]) <|
    .ret) (.skip)) <|
  .seq (.ops [
    ⟨some 5, .pur .mov, [.k (.lst 0 true [])], none⟩]) <|
  .seq (.seq (.ops [
    ⟨some 19, .pur (.faddr 2), [.t 3], none⟩,
    ⟨some 20, .ld (some 3) 1 false, [.t 19], none⟩,
    ⟨some 21, .pur .lenL, [.t 20], none⟩,
    ⟨some 22, .pur .mov, [.k (.i (0))], none⟩]) <|
  .block 0 (.loop [7, 23, 24, 25, 26, 27, 28, 29, 30, 31, 32] [] f109_l0)) <|
  .seq (.ops [
    ⟨some 33, .pur (.faddr 6), [.t 3], none⟩,
    ⟨some 34, .ld (some 3) 1 false, [.t 33], none⟩,
    ⟨some 35, .call 193, [.t 34], none⟩,
    ⟨some 36, .pur (.bin .add), [.k (.s ⟨#[117]⟩), .t 35], none⟩,
    ⟨some 37, .call 192, [.t 36], none⟩,
    ⟨some 8, .alloc .reg [.i (0), .s ⟨#[]⟩, .lst 0 true []], [], none⟩,
    ⟨none, .st (some 8) 3, [.t 8, .t 37], none⟩]) <|
  .seq (.ops [
    ⟨some 38, .ld (some 2) 3 true, [.t 2], none⟩,
    ⟨some 39, .call 192, [.k (.s ⟨#[99, 111, 111, 107, 105, 101]⟩)], none⟩,
    ⟨some 40, .pur (.faddr 0), [.t 3], none⟩,
    ⟨some 41, .ld (some 3) 1 false, [.t 40], none⟩,
    ⟨some 42, .pur (.bin .add), [.k (.s ⟨#[99]⟩), .t 41], none⟩,
    ⟨some 43, .call 192, [.t 42], none⟩,
    ⟨some 44, .pur (.faddr 1), [.t 3], none⟩,
    ⟨some 45, .ld (some 3) 1 false, [.t 44], none⟩,
    ⟨some 46, .pur (.bin .add), [.k (.s ⟨#[110]⟩), .t 45], none⟩,
    ⟨some 47, .call 192, [.t 46], none⟩,
    ⟨some 48, .pur .mov, [.t 5], none⟩,
    ⟨some 49, .call 126, [.t 48], none⟩,
    ⟨some 50, .pur (.faddr 3), [.t 3], none⟩,
    ⟨some 51, .ld (some 3) 3 true, [.t 50], none⟩,
    ⟨some 52, .ld (some 8) 3 true, [.t 8], none⟩,
    ⟨some 53, .pur (.buildSl 3 6 [.i (0), .s ⟨#[]⟩, .lst 0 true []] [0, 1, 2, 3, 4, 5]), [.t 39, .t 43, .t 47, .t 49, .t 51, .t 52], none⟩,
    ⟨some 54, .call 126, [.t 53], none⟩,
    ⟨some 55, .call 128, [.t 38, .t 54], none⟩,
    ⟨none, .st (some 4) 3, [.t 4, .t 55], none⟩]) <|
  .ret
def f109 : AFunc := ⟨56, f109b, [.cell 4 3 true]⟩
/- 110 sluiceway/sluicewaylaw14.few -/
def f110b : ACode :=
  .seq (.ops [
    ⟨some 1, .box .reg, [.t 0], none⟩,
    ⟨some 2, .alloc .reg [.s ⟨#[]⟩, .s ⟨#[]⟩, .lst 0 true [], .i (0), .s ⟨#[]⟩, .lst 0 true [], .i (0)], [], none⟩]) <|
  .seq (.ops [
    ⟨some 3, .pur (.buildSl 1 0 [.s ⟨#[]⟩] []), [], none⟩,
    ⟨some 4, .pur (.faddr 2), [.t 1], none⟩,
    ⟨some 5, .ld (some 1) 1 false, [.t 4], none⟩,
    ⟨some 6, .pur (.faddr 2), [.t 1], none⟩,
    ⟨some 7, .ld (some 1) 1 false, [.t 6], none⟩,
    ⟨some 8, .pur .lenL, [.t 7], none⟩,
    ⟨some 9, .pur .min, [.t 8, .k (.i (20))], none⟩,
    ⟨some 10, .pur (.sliceL 1 false true false), [.t 5, .t 9], none⟩,
    ⟨some 11, .append 1 16, [.t 3, .t 10], none⟩,
    ⟨some 12, .pur (.faddr 2), [.t 1], none⟩,
    ⟨none, .st (some 1) 1, [.t 12, .t 11], none⟩]) <|
  .seq (.ops [
    ⟨some 13, .ld (some 1) 7 true, [.t 1], none⟩,
    ⟨none, .st (some 2) 7, [.t 2, .t 13], none⟩]) <|
  .ret
def f110 : AFunc := ⟨14, f110b, [.cell 2 7 true]⟩
/- 111 sluiceway/sluicewayref14.Seal -/
def f111_l0 : ACode :=
  .seq (.seq (.ops [
    ⟨some 23, .pur .mov, [.t 8], none⟩,
    ⟨some 24, .pur (.faddr 2), [.t 3], none⟩,
    ⟨some 25, .ld (some 3) 1 false, [.t 24], none⟩,
    ⟨some 26, .pur .lenL, [.t 25], none⟩,
    ⟨some 27, .pur (.bin .lss), [.t 23, .t 26], none⟩]) <|
  .cond (.t 27) (.skip) (.exit 0)) <|
  .seq (.block 1 (.ops [
      ⟨some 30, .pur .mov, [.t 7], none⟩,
      ⟨some 31, .pur (.faddr 2), [.t 3], none⟩,
      ⟨some 32, .ld (some 3) 1 false, [.t 31], none⟩,
      ⟨some 33, .pur .mov, [.t 8], none⟩,
      ⟨some 34, .pur (.iaddr 1), [.t 32, .t 33], none⟩,
      ⟨some 35, .ld none 1 false, [.t 34], none⟩,
      ⟨some 36, .pur (.bin .add), [.k (.s ⟨#[100]⟩), .t 35], none⟩,
      ⟨some 37, .call 212, [.t 36], none⟩,
      ⟨some 38, .pur (.buildSl 3 1 [.i (0), .s ⟨#[]⟩, .lst 0 true []] [0]), [.t 37], none⟩,
      ⟨some 39, .append 3 48, [.t 30, .t 38], none⟩,
      ⟨some 7, .pur .mov, [.t 39], none⟩])) <|
  .ops [
    ⟨some 28, .pur .mov, [.t 8], none⟩,
    ⟨some 29, .pur (.bin .add), [.t 28, .k (.i (1))], none⟩,
    ⟨some 8, .pur .mov, [.t 29], none⟩]
def f111b : ACode :=
  .seq (.ops [
    ⟨some 2, .box .reg, [.t 0], none⟩,
    ⟨some 3, .box .reg, [.t 1], none⟩,
    ⟨some 4, .alloc .reg [.i (0), .s ⟨#[]⟩, .lst 0 true []], [], none⟩]) <|
  .seq (.ops [
    ⟨some 10, .ld (some 2) 3 true, [.t 2], none⟩,
    ⟨some 11, .call 211, [.t 10], none⟩,
    ⟨some 5, .pur .mov, [.t 11], none⟩]) <|
  .seq (.ops [
    ⟨some 12, .pur (.faddr 3), [.t 3], none⟩,
    ⟨some 13, .ld (some 3) 3 true, [.t 12], none⟩,
    ⟨some 14, .call 211, [.t 13], none⟩,
    ⟨some 6, .pur .mov, [.t 14], none⟩]) <|
  .seq (.seq (.ops [
    ⟨some 15, .pur .mov, [.t 5], none⟩,
    ⟨some 16, .pur (.un .not), [.t 15], none⟩,
    ⟨some 17, .pur .mov, [.t 16], none⟩,
    ⟨some 18, .pur .mov, [.t 6], some (17, false)⟩,
    ⟨some 19, .pur (.un .not), [.t 18], some (17, false)⟩,
    ⟨some 20, .pur .pick, [.t 17, .k (.b true), .t 19], none⟩]) <|
  .cond (.t 20) (.seq (.ops [
      ⟨some 21, .pur (.build [.i (0), .s ⟨#[]⟩, .lst 0 true []] []), [], none⟩,
      ⟨none, .st (some 4) 3, [.t 4, .t 21], none⟩]) <|
    .ret) (.skip)) <|
  .seq (.ops [
    ⟨some 22, .pur (.buildSl 3 0 [.i (0), .s ⟨#[]⟩, .lst 0 true []] []), [], none⟩,
    ⟨some 7, .pur .mov, [.t 22], none⟩]) <|
  .seq (.seq (.ops [
    ⟨some 8, .pur .mov, [.k (.i (0))], none⟩]) <|
  .block 0 (.loop [23, 24, 25, 26, 27, 28, 29, 30, 31, 32, 33, 34, 35, 36, 37, 38, 39] [] f111_l0)) <|
  .seq (.ops [
    ⟨some 40, .call 212, [.k (.s ⟨#[99, 111, 111, 107, 105, 101]⟩)], none⟩,
    ⟨some 41, .pur (.faddr 0), [.t 3], none⟩,
    ⟨some 42, .ld (some 3) 1 false, [.t 41], none⟩,
    ⟨some 43, .pur (.bin .add), [.k (.s ⟨#[99]⟩), .t 42], none⟩,
    ⟨some 44, .call 212, [.t 43], none⟩,
    ⟨some 45, .pur (.faddr 1), [.t 3], none⟩,
    ⟨some 46, .ld (some 3) 1 false, [.t 45], none⟩,
    ⟨some 47, .pur (.bin .add), [.k (.s ⟨#[110]⟩), .t 46], none⟩,
    ⟨some 48, .call 212, [.t 47], none⟩,
    ⟨some 49, .pur .mov, [.t 7], none⟩,
    ⟨some 50, .pur (.build [.i (0), .s ⟨#[]⟩, .lst 0 true []] [(0, 1), (2, 1)]), [.k (.i (3)), .t 49], none⟩,
    ⟨some 51, .pur (.faddr 3), [.t 3], none⟩,
    ⟨some 52, .ld (some 3) 3 true, [.t 51], none⟩,
    ⟨some 53, .pur (.faddr 6), [.t 3], none⟩,
    ⟨some 54, .ld (some 3) 1 false, [.t 53], none⟩,
    ⟨some 55, .call 213, [.t 54], none⟩,
    ⟨some 56, .pur (.bin .add), [.k (.s ⟨#[117]⟩), .t 55], none⟩,
    ⟨some 57, .call 212, [.t 56], none⟩,
    ⟨some 58, .pur (.buildSl 3 6 [.i (0), .s ⟨#[]⟩, .lst 0 true []] [0, 1, 2, 3, 4, 5]), [.t 40, .t 44, .t 48, .t 50, .t 52, .t 57], none⟩,
    ⟨some 9, .pur .mov, [.t 58], none⟩]) <|
  .seq (.ops [
    ⟨some 59, .ld (some 2) 3 true, [.t 2], none⟩,
    ⟨some 60, .pur .mov, [.t 9], none⟩,
    ⟨some 61, .pur (.build [.i (0), .s ⟨#[]⟩, .lst 0 true []] [(0, 1), (2, 1)]), [.k (.i (3)), .t 60], none⟩,
    ⟨some 62, .pur (.buildSl 3 2 [.i (0), .s ⟨#[]⟩, .lst 0 true []] [0, 1]), [.t 59, .t 61], none⟩,
    ⟨some 63, .pur (.build [.i (0), .s ⟨#[]⟩, .lst 0 true []] [(0, 1), (2, 1)]), [.k (.i (4)), .t 62], none⟩,
    ⟨none, .st (some 4) 3, [.t 4, .t 63], none⟩]) <|
  .ret
def f111 : AFunc := ⟨64, f111b, [.cell 4 3 true]⟩
/- 112 sluiceway/cookie.Open -/
def f112_l0 : ACode :=
  .seq (.ops [
    ⟨some 43, .pur (.bin .lss), [.t 42, .t 41], none⟩]) <|
  .seq (.cond (.t 43) (.skip) (.exit 0)) <|
  .seq (.block 1 (.seq (.ops [
      ⟨some 44, .pur (.iaddr 1), [.t 40, .t 42], none⟩,
      ⟨some 45, .ld none 1 false, [.t 44], none⟩,
      ⟨some 11, .pur .mov, [.t 45], none⟩]) <|
    .ops [
      ⟨some 46, .pur .mov, [.t 11], none⟩,
      ⟨some 47, .ld (some 8) 3 true, [.t 8], none⟩,
      ⟨some 48, .callv, [.t 46, .t 47, .t 9], none⟩])) <|
  .ops [
    ⟨some 49, .pur (.bin .add), [.t 42, .k (.i (1))], none⟩,
    ⟨some 42, .pur .mov, [.t 49], none⟩]
def f112b : ACode :=
  .seq (.ops [
    ⟨some 3, .box .reg, [.t 0], none⟩,
    ⟨some 4, .box .reg, [.t 1], none⟩,
    ⟨some 6, .alloc .reg [.s ⟨#[]⟩, .s ⟨#[]⟩, .lst 0 true [], .i (0), .s ⟨#[]⟩, .lst 0 true [], .i (0)], [], none⟩,
    ⟨some 7, .pur .mov, [.k (.i (0))], none⟩]) <|
  .seq (.seq (.ops [
    ⟨some 12, .ld (some 4) 3 true, [.t 4], none⟩,
    ⟨some 13, .call 116, [.t 12], none⟩,
    ⟨some 14, .pur (.un .not), [.t 13], none⟩,
    ⟨some 15, .pur .mov, [.t 14], none⟩,
    ⟨some 16, .pur (.faddr 0), [.t 4], some (15, false)⟩,
    ⟨some 17, .ld (some 4) 1 false, [.t 16], some (15, false)⟩,
    ⟨some 18, .pur (.bin .neq), [.t 17, .k (.i (4))], some (15, false)⟩,
    ⟨some 19, .pur .pick, [.t 15, .k (.b true), .t 18], none⟩]) <|
  .cond (.t 19) (.seq (.ops [
      ⟨some 20, .pur (.build [.s ⟨#[]⟩, .s ⟨#[]⟩, .lst 0 true [], .i (0), .s ⟨#[]⟩, .lst 0 true [], .i (0)] []), [], none⟩,
      ⟨none, .st (some 6) 7, [.t 6, .t 20], none⟩,
      ⟨some 7, .pur .mov, [.k (.i (2))], none⟩]) <|
    .ret) (.skip)) <|
  .seq (.seq (.ops [
    ⟨some 21, .pur (.faddr 2), [.t 4], none⟩,
    ⟨some 22, .ld (some 4) 1 false, [.t 21], none⟩,
    ⟨some 23, .pur (.iaddr 3), [.t 22, .k (.i (0))], none⟩,
    ⟨some 24, .ld none 3 true, [.t 23], none⟩,
    ⟨some 25, .ld (some 3) 3 true, [.t 3], none⟩,
    ⟨some 26, .call 118, [.t 24, .t 25], none⟩,
    ⟨some 27, .pur (.un .not), [.t 26], none⟩]) <|
  .cond (.t 27) (.seq (.ops [
      ⟨some 28, .pur (.build [.s ⟨#[]⟩, .s ⟨#[]⟩, .lst 0 true [], .i (0), .s ⟨#[]⟩, .lst 0 true [], .i (0)] []), [], none⟩,
      ⟨none, .st (some 6) 7, [.t 6, .t 28], none⟩,
      ⟨some 7, .pur .mov, [.k (.i (4))], none⟩]) <|
    .ret) (.skip)) <|
  .seq (.ops [
    ⟨some 29, .pur (.faddr 2), [.t 4], none⟩,
    ⟨some 30, .ld (some 4) 1 false, [.t 29], none⟩,
    ⟨some 31, .pur (.iaddr 3), [.t 30, .k (.i (1))], none⟩,
    ⟨some 32, .ld none 3 true, [.t 31], none⟩,
    ⟨some 33, .pur (.build [.i (0), .s ⟨#[]⟩, .lst 0 true []] [(0, 3)]), [.t 32], none⟩,
    ⟨some 8, .alloc .reg [.i (0), .s ⟨#[]⟩, .lst 0 true []], [], none⟩,
    ⟨none, .st (some 8) 3, [.t 8, .t 33], none⟩]) <|
  .seq (.seq (.ops [
    ⟨some 34, .pur (.faddr 0), [.t 8], none⟩,
    ⟨some 35, .pur (.faddr 2), [.t 34], none⟩,
    ⟨some 36, .ld (some 8) 1 false, [.t 35], none⟩,
    ⟨some 37, .pur .lenL, [.t 36], none⟩,
    ⟨some 38, .pur (.bin .neq), [.t 37, .k (.i (6))], none⟩]) <|
  .cond (.t 38) (.seq (.ops [
      ⟨some 39, .pur (.build [.s ⟨#[]⟩, .s ⟨#[]⟩, .lst 0 true [], .i (0), .s ⟨#[]⟩, .lst 0 true [], .i (0)] []), [], none⟩,
      ⟨none, .st (some 6) 7, [.t 6, .t 39], none⟩,
      ⟨some 7, .pur .mov, [.k (.i (2))], none⟩]) <|
    .ret) (.skip)) <|
  .seq (.ops [
    ⟨some 9, .alloc .heap [.s ⟨#[]⟩, .s ⟨#[]⟩, .lst 0 true [], .i (0), .s ⟨#[]⟩, .lst 0 true [], .i (0)], [], none⟩]) <|
  .seq (.seq (.ops [
    ⟨some 40, .pur (.buildSl 1 5 [.sc .nilFunc] [0, 1, 2, 3, 4]), [.k (.fn 214 [] []), .k (.fn 215 [] []), .k (.fn 216 [] []), .k (.fn 217 [] []), .k (.fn 218 [] [])], none⟩,
    ⟨some 41, .pur .lenL, [.t 40], none⟩,
    ⟨some 42, .pur .mov, [.k (.i (0))], none⟩]) <|
  .block 0 (.loop [11, 43, 44, 45, 46, 47, 48, 49] [] f112_l0)) <|
  .seq (.seq (.ops [
    ⟨some 50, .ld (some 3) 3 true, [.t 3], none⟩,
    ⟨some 51, .ld none 7 true, [.t 9], none⟩,
    ⟨some 52, .call 109, [.t 50, .t 51], none⟩,
    ⟨some 53, .ld (some 4) 3 true, [.t 4], none⟩,
    ⟨some 54, .call 118, [.t 52, .t 53], none⟩,
    ⟨some 55, .pur (.un .not), [.t 54], none⟩]) <|
  .cond (.t 55) (.seq (.ops [
      ⟨some 56, .pur (.build [.s ⟨#[]⟩, .s ⟨#[]⟩, .lst 0 true [], .i (0), .s ⟨#[]⟩, .lst 0 true [], .i (0)] []), [], none⟩,
      ⟨none, .st (some 6) 7, [.t 6, .t 56], none⟩,
      ⟨some 7, .pur .mov, [.k (.i (2))], none⟩]) <|
    .ret) (.skip)) <|
  .seq (.seq (.ops [
    ⟨some 57, .pur .mov, [.t 2], none⟩,
    ⟨some 58, .pur (.faddr 6), [.t 9], none⟩,
    ⟨some 59, .ld none 1 false, [.t 58], none⟩,
    ⟨some 60, .pur (.bin .gtr), [.t 57, .t 59], none⟩]) <|
  .cond (.t 60) (.seq (.ops [
      ⟨some 61, .pur (.build [.s ⟨#[]⟩, .s ⟨#[]⟩, .lst 0 true [], .i (0), .s ⟨#[]⟩, .lst 0 true [], .i (0)] []), [], none⟩,
      ⟨none, .st (some 6) 7, [.t 6, .t 61], none⟩,
      ⟨some 7, .pur .mov, [.k (.i (5))], none⟩]) <|
    .ret) (.skip)) <|
  .seq (.ops [
    ⟨some 62, .ld none 7 true, [.t 9], none⟩,
    ⟨none, .st (some 6) 7, [.t 6, .t 62], none⟩,
    ⟨some 7, .pur .mov, [.k (.i (0))], none⟩]) <|
  .ret
def f112 : AFunc := ⟨63, f112b, [.cell 6 7 true, .tmp 7]⟩
/- 113 sluiceway/sluicewayref14.Open -/
def f113b : ACode :=
  .seq (.ops [
    ⟨some 3, .box .reg, [.t 0], none⟩,
    ⟨some 4, .box .reg, [.t 1], none⟩,
    ⟨some 6, .alloc .reg [.s ⟨#[]⟩, .s ⟨#[]⟩, .lst 0 true [], .i (0), .s ⟨#[]⟩, .lst 0 true [], .i (0)], [], none⟩,
    ⟨some 7, .pur .mov, [.k (.i (0))], none⟩]) <|
  .seq (.ops [
    ⟨some 13, .ld (some 4) 3 true, [.t 4], none⟩,
    ⟨some 14, .call 219, [.t 13], none⟩,
    ⟨some 8, .pur .mov, [.t 14], none⟩]) <|
  .seq (.seq (.ops [
    ⟨some 15, .pur .mov, [.t 8], none⟩,
    ⟨some 16, .pur (.un .not), [.t 15], none⟩,
    ⟨some 17, .pur .mov, [.t 16], none⟩,
    ⟨some 18, .pur (.faddr 0), [.t 4], some (17, false)⟩,
    ⟨some 19, .ld (some 4) 1 false, [.t 18], some (17, false)⟩,
    ⟨some 20, .pur (.bin .neq), [.t 19, .k (.i (4))], some (17, false)⟩,
    ⟨some 21, .pur .pick, [.t 17, .k (.b true), .t 20], none⟩]) <|
  .cond (.t 21) (.seq (.ops [
      ⟨some 22, .pur (.build [.s ⟨#[]⟩, .s ⟨#[]⟩, .lst 0 true [], .i (0), .s ⟨#[]⟩, .lst 0 true [], .i (0)] []), [], none⟩,
      ⟨none, .st (some 6) 7, [.t 6, .t 22], none⟩,
      ⟨some 7, .pur .mov, [.k (.i (2))], none⟩]) <|
    .ret) (.skip)) <|
  .seq (.ops [
    ⟨some 23, .pur (.faddr 2), [.t 4], none⟩,
    ⟨some 24, .ld (some 4) 1 false, [.t 23], none⟩,
    ⟨some 25, .pur (.iaddr 3), [.t 24, .k (.i (0))], none⟩,
    ⟨some 26, .ld none 3 true, [.t 25], none⟩,
    ⟨some 27, .ld (some 3) 3 true, [.t 3], none⟩,
    ⟨some 28, .call 114, [.t 26, .t 27], none⟩,
    ⟨some 9, .pur .mov, [.t 28], none⟩]) <|
  .seq (.seq (.ops [
    ⟨some 29, .pur .mov, [.t 9], none⟩,
    ⟨some 30, .pur (.un .not), [.t 29], none⟩]) <|
  .cond (.t 30) (.seq (.ops [
      ⟨some 31, .pur (.build [.s ⟨#[]⟩, .s ⟨#[]⟩, .lst 0 true [], .i (0), .s ⟨#[]⟩, .lst 0 true [], .i (0)] []), [], none⟩,
      ⟨none, .st (some 6) 7, [.t 6, .t 31], none⟩,
      ⟨some 7, .pur .mov, [.k (.i (4))], none⟩]) <|
    .ret) (.skip)) <|
  .seq (.ops [
    ⟨some 32, .ld (some 3) 3 true, [.t 3], none⟩,
    ⟨some 33, .call 211, [.t 32], none⟩,
    ⟨some 10, .pur .mov, [.t 33], none⟩]) <|
  .seq (.ops [
    ⟨some 35, .pur (.faddr 2), [.t 4], none⟩,
    ⟨some 36, .ld (some 4) 1 false, [.t 35], none⟩,
    ⟨some 37, .pur (.iaddr 3), [.t 36, .k (.i (1))], none⟩,
    ⟨some 38, .ld none 3 true, [.t 37], none⟩,
    ⟨some 39, .call 220, [.t 38], none⟩,
    ⟨some 34, .pur .mov, [.t 39], none⟩,
    ⟨some 40, .pur (.extract 0), [.t 34], none⟩,
    ⟨some 41, .pur (.extract 1), [.t 34], none⟩,
    ⟨some 11, .alloc .reg [.s ⟨#[]⟩, .s ⟨#[]⟩, .lst 0 true [], .i (0), .s ⟨#[]⟩, .lst 0 true [], .i (0)], [], none⟩,
    ⟨none, .st (some 11) 7, [.t 11, .t 40], none⟩,
    ⟨some 12, .pur .mov, [.t 41], none⟩]) <|
  .seq (.seq (.ops [
    ⟨some 42, .pur .mov, [.t 10], none⟩,
    ⟨some 43, .pur (.un .not), [.t 42], none⟩,
    ⟨some 44, .pur .mov, [.t 43], none⟩,
    ⟨some 45, .pur .mov, [.t 12], some (44, false)⟩,
    ⟨some 46, .pur (.un .not), [.t 45], some (44, false)⟩,
    ⟨some 47, .pur .pick, [.t 44, .k (.b true), .t 46], none⟩]) <|
  .cond (.t 47) (.seq (.ops [
      ⟨some 48, .pur (.build [.s ⟨#[]⟩, .s ⟨#[]⟩, .lst 0 true [], .i (0), .s ⟨#[]⟩, .lst 0 true [], .i (0)] []), [], none⟩,
      ⟨none, .st (some 6) 7, [.t 6, .t 48], none⟩,
      ⟨some 7, .pur .mov, [.k (.i (2))], none⟩]) <|
    .ret) (.skip)) <|
  .seq (.seq (.ops [
    ⟨some 49, .pur .mov, [.t 2], none⟩,
    ⟨some 50, .pur (.faddr 6), [.t 11], none⟩,
    ⟨some 51, .ld (some 11) 1 false, [.t 50], none⟩,
    ⟨some 52, .pur (.bin .gtr), [.t 49, .t 51], none⟩]) <|
  .cond (.t 52) (.seq (.ops [
      ⟨some 53, .pur (.build [.s ⟨#[]⟩, .s ⟨#[]⟩, .lst 0 true [], .i (0), .s ⟨#[]⟩, .lst 0 true [], .i (0)] []), [], none⟩,
      ⟨none, .st (some 6) 7, [.t 6, .t 53], none⟩,
      ⟨some 7, .pur .mov, [.k (.i (5))], none⟩]) <|
    .ret) (.skip)) <|
  .seq (.ops [
    ⟨some 54, .ld (some 11) 7 true, [.t 11], none⟩,
    ⟨none, .st (some 6) 7, [.t 6, .t 54], none⟩,
    ⟨some 7, .pur .mov, [.k (.i (0))], none⟩]) <|
  .ret
def f113 : AFunc := ⟨55, f113b, [.cell 6 7 true, .tmp 7]⟩
/- 114 sluiceway/sluicewayref07.Same -/
def f114_l0 : ACode :=
  .seq (.seq (.ops [
    ⟨some 28, .pur .mov, [.t 5], none⟩,
    ⟨some 29, .pur (.faddr 2), [.t 2], none⟩,
    ⟨some 30, .ld (some 2) 1 false, [.t 29], none⟩,
    ⟨some 31, .pur .lenL, [.t 30], none⟩,
    ⟨some 32, .pur (.bin .lss), [.t 28, .t 31], none⟩]) <|
  .cond (.t 32) (.skip) (.exit 0)) <|
  .seq (.block 1 (.seq (.ops [
      ⟨some 35, .pur (.faddr 2), [.t 2], none⟩,
      ⟨some 36, .ld (some 2) 1 false, [.t 35], none⟩,
      ⟨some 37, .pur .mov, [.t 5], none⟩,
      ⟨some 38, .pur (.iaddr 3), [.t 36, .t 37], none⟩,
      ⟨some 39, .ld none 3 true, [.t 38], none⟩,
      ⟨some 40, .pur (.faddr 2), [.t 3], none⟩,
      ⟨some 41, .ld (some 3) 1 false, [.t 40], none⟩,
      ⟨some 42, .pur .mov, [.t 5], none⟩,
      ⟨some 43, .pur (.iaddr 3), [.t 41, .t 42], none⟩,
      ⟨some 44, .ld none 3 true, [.t 43], none⟩,
      ⟨some 45, .call 114, [.t 39, .t 44], none⟩,
      ⟨some 6, .pur .mov, [.t 45], none⟩]) <|
    .seq (.ops [
      ⟨some 46, .pur .mov, [.t 6], none⟩,
      ⟨some 47, .pur (.un .not), [.t 46], none⟩]) <|
    .cond (.t 47) (.seq (.ops [
        ⟨some 4, .pur .mov, [.k (.b false)], none⟩]) <|
      .ret) (.skip))) <|
  .ops [
    ⟨some 33, .pur .mov, [.t 5], none⟩,
    ⟨some 34, .pur (.bin .add), [.t 33, .k (.i (1))], none⟩,
    ⟨some 5, .pur .mov, [.t 34], none⟩]
def f114b : ACode :=
  .seq (.ops [
    ⟨some 2, .box .reg, [.t 0], none⟩,
    ⟨some 3, .box .reg, [.t 1], none⟩,
    ⟨some 4, .pur .mov, [.k (.b false)], none⟩]) <|
  .seq (.seq (.ops [
    ⟨some 7, .pur (.faddr 0), [.t 2], none⟩,
    ⟨some 8, .ld (some 2) 1 false, [.t 7], none⟩,
    ⟨some 9, .pur (.faddr 0), [.t 3], none⟩,
    ⟨some 10, .ld (some 3) 1 false, [.t 9], none⟩,
    ⟨some 11, .pur (.bin .neq), [.t 8, .t 10], none⟩,
    ⟨some 12, .pur .mov, [.t 11], none⟩,
    ⟨some 13, .pur (.faddr 1), [.t 2], some (12, false)⟩,
    ⟨some 14, .ld (some 2) 1 false, [.t 13], some (12, false)⟩,
    ⟨some 15, .pur (.faddr 1), [.t 3], some (12, false)⟩,
    ⟨some 16, .ld (some 3) 1 false, [.t 15], some (12, false)⟩,
    ⟨some 17, .pur (.bin .neq), [.t 14, .t 16], some (12, false)⟩,
    ⟨some 18, .pur .pick, [.t 12, .k (.b true), .t 17], none⟩,
    ⟨some 19, .pur .mov, [.t 18], none⟩,
    ⟨some 20, .pur (.faddr 2), [.t 2], some (19, false)⟩,
    ⟨some 21, .ld (some 2) 1 false, [.t 20], some (19, false)⟩,
    ⟨some 22, .pur .lenL, [.t 21], some (19, false)⟩,
    ⟨some 23, .pur (.faddr 2), [.t 3], some (19, false)⟩,
    ⟨some 24, .ld (some 3) 1 false, [.t 23], some (19, false)⟩,
    ⟨some 25, .pur .lenL, [.t 24], some (19, false)⟩,
    ⟨some 26, .pur (.bin .neq), [.t 22, .t 25], some (19, false)⟩,
    ⟨some 27, .pur .pick, [.t 19, .k (.b true), .t 26], none⟩]) <|
  .cond (.t 27) (.seq (.ops [
      ⟨some 4, .pur .mov, [.k (.b false)], none⟩]) <|
    .ret) (.skip)) <|
  .seq (.seq (.ops [
    ⟨some 5, .pur .mov, [.k (.i (0))], none⟩]) <|
  .block 0 (.loop [4, 6, 28, 29, 30, 31, 32, 33, 34, 35, 36, 37, 38, 39, 40, 41, 42, 43, 44, 45, 46, 47] [] f114_l0)) <|
  .seq (.ops [
    ⟨some 4, .pur .mov, [.k (.b true)], none⟩]) <|
  .ret
def f114 : AFunc := ⟨48, f114b, [.tmp 4]⟩
/- 115 sluiceway/sluicewayref14.Same -/
def f115_l0 : ACode :=
  .seq (.seq (.ops [
    ⟨some 44, .pur .mov, [.t 6], none⟩,
    ⟨some 45, .pur (.faddr 2), [.t 2], none⟩,
    ⟨some 46, .ld (some 2) 1 false, [.t 45], none⟩,
    ⟨some 47, .pur .lenL, [.t 46], none⟩,
    ⟨some 48, .pur (.bin .lss), [.t 44, .t 47], none⟩]) <|
  .cond (.t 48) (.skip) (.exit 0)) <|
  .seq (.block 1 (.seq (.ops [
      ⟨some 51, .pur (.faddr 2), [.t 2], none⟩,
      ⟨some 52, .ld (some 2) 1 false, [.t 51], none⟩,
      ⟨some 53, .pur .mov, [.t 6], none⟩,
      ⟨some 54, .pur (.iaddr 1), [.t 52, .t 53], none⟩,
      ⟨some 55, .ld none 1 false, [.t 54], none⟩,
      ⟨some 56, .pur (.faddr 2), [.t 3], none⟩,
      ⟨some 57, .ld (some 3) 1 false, [.t 56], none⟩,
      ⟨some 58, .pur .mov, [.t 6], none⟩,
      ⟨some 59, .pur (.iaddr 1), [.t 57, .t 58], none⟩,
      ⟨some 60, .ld none 1 false, [.t 59], none⟩,
      ⟨some 61, .pur (.bin .neq), [.t 55, .t 60], none⟩]) <|
    .cond (.t 61) (.seq (.ops [
        ⟨some 4, .pur .mov, [.k (.b false)], none⟩]) <|
      .ret) (.skip))) <|
  .ops [
    ⟨some 49, .pur .mov, [.t 6], none⟩,
    ⟨some 50, .pur (.bin .add), [.t 49, .k (.i (1))], none⟩,
    ⟨some 6, .pur .mov, [.t 50], none⟩]
def f115b : ACode :=
  .seq (.ops [
    ⟨some 2, .box .reg, [.t 0], none⟩,
    ⟨some 3, .box .reg, [.t 1], none⟩,
    ⟨some 4, .pur .mov, [.k (.b false)], none⟩]) <|
  .seq (.ops [
    ⟨some 7, .pur (.faddr 3), [.t 2], none⟩,
    ⟨some 8, .ld (some 2) 3 true, [.t 7], none⟩,
    ⟨some 9, .pur (.faddr 3), [.t 3], none⟩,
    ⟨some 10, .ld (some 3) 3 true, [.t 9], none⟩,
    ⟨some 11, .call 114, [.t 8, .t 10], none⟩,
    ⟨some 5, .pur .mov, [.t 11], none⟩]) <|
  .seq (.seq (.ops [
    ⟨some 12, .pur (.faddr 0), [.t 2], none⟩,
    ⟨some 13, .ld (some 2) 1 false, [.t 12], none⟩,
    ⟨some 14, .pur (.faddr 0), [.t 3], none⟩,
    ⟨some 15, .ld (some 3) 1 false, [.t 14], none⟩,
    ⟨some 16, .pur (.bin .neq), [.t 13, .t 15], none⟩,
    ⟨some 17, .pur .mov, [.t 16], none⟩,
    ⟨some 18, .pur (.faddr 1), [.t 2], some (17, false)⟩,
    ⟨some 19, .ld (some 2) 1 false, [.t 18], some (17, false)⟩,
    ⟨some 20, .pur (.faddr 1), [.t 3], some (17, false)⟩,
    ⟨some 21, .ld (some 3) 1 false, [.t 20], some (17, false)⟩,
    ⟨some 22, .pur (.bin .neq), [.t 19, .t 21], some (17, false)⟩,
    ⟨some 23, .pur .pick, [.t 17, .k (.b true), .t 22], none⟩,
    ⟨some 24, .pur .mov, [.t 23], none⟩,
    ⟨some 25, .pur (.faddr 6), [.t 2], some (24, false)⟩,
    ⟨some 26, .ld (some 2) 1 false, [.t 25], some (24, false)⟩,
    ⟨some 27, .pur (.faddr 6), [.t 3], some (24, false)⟩,
    ⟨some 28, .ld (some 3) 1 false, [.t 27], some (24, false)⟩,
    ⟨some 29, .pur (.bin .neq), [.t 26, .t 28], some (24, false)⟩,
    ⟨some 30, .pur .pick, [.t 24, .k (.b true), .t 29], none⟩,
    ⟨some 31, .pur .mov, [.t 30], none⟩,
    ⟨some 32, .pur (.faddr 2), [.t 2], some (31, false)⟩,
    ⟨some 33, .ld (some 2) 1 false, [.t 32], some (31, false)⟩,
    ⟨some 34, .pur .lenL, [.t 33], some (31, false)⟩,
    ⟨some 35, .pur (.faddr 2), [.t 3], some (31, false)⟩,
    ⟨some 36, .ld (some 3) 1 false, [.t 35], some (31, false)⟩,
    ⟨some 37, .pur .lenL, [.t 36], some (31, false)⟩,
    ⟨some 38, .pur (.bin .neq), [.t 34, .t 37], some (31, false)⟩,
    ⟨some 39, .pur .pick, [.t 31, .k (.b true), .t 38], none⟩,
    ⟨some 40, .pur .mov, [.t 39], none⟩,
    ⟨some 41, .pur .mov, [.t 5], some (40, false)⟩,
    ⟨some 42, .pur (.un .not), [.t 41], some (40, false)⟩,
    ⟨some 43, .pur .pick, [.t 40, .k (.b true), .t 42], none⟩]) <|
  .cond (.t 43) (.seq (.ops [
      ⟨some 4, .pur .mov, [.k (.b false)], none⟩]) <|
    .ret) (.skip)) <|
  .seq (.seq (.ops [
    ⟨some 6, .pur .mov, [.k (.i (0))], none⟩]) <|
  .block 0 (.loop [4, 44, 45, 46, 47, 48, 49, 50, 51, 52, 53, 54, 55, 56, 57, 58, 59, 60, 61] [] f115_l0)) <|
  .seq (.ops [
    ⟨some 4, .pur .mov, [.k (.b true)], none⟩]) <|
  .ret
def f115 : AFunc := ⟨62, f115b, [.tmp 4]⟩
/- 116 sluiceway/term.Right -/
def f116b : ACode :=
  .seq (.ops [
    ⟨some 1, .box .reg, [.t 0], none⟩,
    ⟨some 2, .pur .mov, [.k (.b false)], none⟩]) <|
  .seq (.ops [
    ⟨some 3, .ld (some 1) 3 true, [.t 1], none⟩,
    ⟨some 4, .call 221, [.t 3, .k (.i (60))], none⟩,
    ⟨some 5, .pur .mov, [.t 4], none⟩,
    ⟨some 6, .ld (some 1) 3 true, [.t 1], some (5, true)⟩,
    ⟨some 7, .call 222, [.t 6], some (5, true)⟩,
    ⟨some 8, .pur .pick, [.t 5, .t 7, .k (.b false)], none⟩,
    ⟨some 2, .pur .mov, [.t 8], none⟩]) <|
  .ret
def f116 : AFunc := ⟨9, f116b, [.tmp 2]⟩
/- 117 sluiceway/term.Depth -/
def f117b : ACode :=
  .seq (.ops [
    ⟨some 1, .box .reg, [.t 0], none⟩,
    ⟨some 2, .pur .mov, [.k (.i (0))], none⟩]) <|
  .seq (.ops [
    ⟨some 3, .ld (some 1) 3 true, [.t 1], none⟩,
    ⟨some 4, .call 223, [.t 3, .k (.i (61))], none⟩,
    ⟨some 2, .pur .mov, [.t 4], none⟩]) <|
  .ret
def f117 : AFunc := ⟨5, f117b, [.tmp 2]⟩
/- 118 sluiceway/term.Same -/
def f118b : ACode :=
  .seq (.ops [
    ⟨some 2, .box .reg, [.t 0], none⟩,
    ⟨some 3, .box .reg, [.t 1], none⟩,
    ⟨some 4, .pur .mov, [.k (.b false)], none⟩]) <|
  .seq (.ops [
    ⟨some 5, .pur (.faddr 0), [.t 2], none⟩,
    ⟨some 6, .ld (some 2) 1 false, [.t 5], none⟩,
    ⟨some 7, .pur (.faddr 0), [.t 3], none⟩,
    ⟨some 8, .ld (some 3) 1 false, [.t 7], none⟩,
    ⟨some 9, .pur (.bin .eql), [.t 6, .t 8], none⟩,
    ⟨some 10, .pur .mov, [.t 9], none⟩,
    ⟨some 11, .pur (.faddr 1), [.t 2], some (10, true)⟩,
    ⟨some 12, .ld (some 2) 1 false, [.t 11], some (10, true)⟩,
    ⟨some 13, .pur (.faddr 1), [.t 3], some (10, true)⟩,
    ⟨some 14, .ld (some 3) 1 false, [.t 13], some (10, true)⟩,
    ⟨some 15, .pur (.bin .eql), [.t 12, .t 14], some (10, true)⟩,
    ⟨some 16, .pur .pick, [.t 10, .t 15, .k (.b false)], none⟩,
    ⟨some 17, .pur .mov, [.t 16], none⟩,
    ⟨some 18, .pur (.faddr 2), [.t 2], some (17, true)⟩,
    ⟨some 19, .ld (some 2) 1 false, [.t 18], some (17, true)⟩,
    ⟨some 20, .pur (.faddr 2), [.t 3], some (17, true)⟩,
    ⟨some 21, .ld (some 3) 1 false, [.t 20], some (17, true)⟩,
    ⟨some 22, .call 224, [.t 19, .t 21, .k (.fn 118 [] [])], some (17, true)⟩,
    ⟨some 23, .pur .pick, [.t 17, .t 22, .k (.b false)], none⟩,
    ⟨some 4, .pur .mov, [.t 23], none⟩]) <|
  .ret
def f118 : AFunc := ⟨24, f118b, [.tmp 4]⟩
/- 121 sluiceway/term.Text -/
def f121b : ACode :=
  .seq (.ops [
    ⟨some 1, .box .reg, [.t 0], none⟩,
    ⟨some 2, .pur .mov, [.k (.s ⟨#[]⟩)], none⟩]) <|
  .seq (.seq (.ops [
    ⟨some 3, .ld (some 1) 3 true, [.t 1], none⟩,
    ⟨some 4, .call 221, [.t 3, .k (.i (60))], none⟩,
    ⟨some 5, .pur (.un .not), [.t 4], none⟩]) <|
  .cond (.t 5) (.seq (.ops [
      ⟨some 2, .pur .mov, [.k (.s ⟨#[]⟩)], none⟩]) <|
    .ret) (.skip)) <|
  .seq (.ops [
    ⟨some 6, .ld (some 1) 3 true, [.t 1], none⟩,
    ⟨some 7, .call 227, [.t 6], none⟩,
    ⟨some 2, .pur .mov, [.t 7], none⟩]) <|
  .ret
def f121 : AFunc := ⟨8, f121b, [.tmp 2]⟩
/- 122 sluiceway/term.Atom -/
def f122b : ACode :=
  .seq (.ops [
    ⟨some 2, .alloc .reg [.i (0), .s ⟨#[]⟩, .lst 0 true []], [], none⟩]) <|
  .seq (.ops [
    ⟨some 3, .pur .mov, [.t 0], none⟩,
    ⟨some 4, .call 228, [.k (.i (2)), .t 3, .k (.lst 0 true [])], none⟩,
    ⟨none, .st (some 2) 3, [.t 2, .t 4], none⟩]) <|
  .ret
def f122 : AFunc := ⟨5, f122b, [.cell 2 3 true]⟩
/- 123 sluiceway/term.Mac -/
def f123b : ACode :=
  .seq (.ops [
    ⟨some 2, .box .reg, [.t 0], none⟩,
    ⟨some 3, .box .reg, [.t 1], none⟩,
    ⟨some 4, .alloc .reg [.i (0), .s ⟨#[]⟩, .lst 0 true []], [], none⟩]) <|
  .seq (.ops [
    ⟨some 5, .ld (some 2) 3 true, [.t 2], none⟩,
    ⟨some 6, .ld (some 3) 3 true, [.t 3], none⟩,
    ⟨some 7, .pur (.buildSl 3 2 [.i (0), .s ⟨#[]⟩, .lst 0 true []] [0, 1]), [.t 5, .t 6], none⟩,
    ⟨some 8, .call 228, [.k (.i (5)), .k (.s ⟨#[]⟩), .t 7], none⟩,
    ⟨none, .st (some 4) 3, [.t 4, .t 8], none⟩]) <|
  .ret
def f123 : AFunc := ⟨9, f123b, [.cell 4 3 true]⟩
/- 124 sluiceway/term.Hash -/
def f124b : ACode :=
  .seq (.ops [
    ⟨some 1, .box .reg, [.t 0], none⟩,
    ⟨some 2, .alloc .reg [.i (0), .s ⟨#[]⟩, .lst 0 true []], [], none⟩]) <|
  .seq (.ops [
    ⟨some 3, .ld (some 1) 3 true, [.t 1], none⟩,
    ⟨some 4, .pur (.buildSl 3 1 [.i (0), .s ⟨#[]⟩, .lst 0 true []] [0]), [.t 3], none⟩,
    ⟨some 5, .call 228, [.k (.i (6)), .k (.s ⟨#[]⟩), .t 4], none⟩,
    ⟨none, .st (some 2) 3, [.t 2, .t 5], none⟩]) <|
  .ret
def f124 : AFunc := ⟨6, f124b, [.cell 2 3 true]⟩
/- 125 sluiceway/term.Mask -/
def f125b : ACode :=
  .seq (.ops [
    ⟨some 2, .box .reg, [.t 0], none⟩,
    ⟨some 3, .box .reg, [.t 1], none⟩,
    ⟨some 4, .alloc .reg [.i (0), .s ⟨#[]⟩, .lst 0 true []], [], none⟩]) <|
  .seq (.ops [
    ⟨some 5, .ld (some 2) 3 true, [.t 2], none⟩,
    ⟨some 6, .ld (some 3) 3 true, [.t 3], none⟩,
    ⟨some 7, .pur (.buildSl 3 2 [.i (0), .s ⟨#[]⟩, .lst 0 true []] [0, 1]), [.t 5, .t 6], none⟩,
    ⟨some 8, .call 228, [.k (.i (10)), .k (.s ⟨#[]⟩), .t 7], none⟩,
    ⟨none, .st (some 4) 3, [.t 4, .t 8], none⟩]) <|
  .ret
def f125 : AFunc := ⟨9, f125b, [.cell 4 3 true]⟩
/- 126 sluiceway/term.Pair -/
def f126b : ACode :=
  .seq (.ops [
    ⟨some 2, .alloc .reg [.i (0), .s ⟨#[]⟩, .lst 0 true []], [], none⟩]) <|
  .seq (.ops [
    ⟨some 3, .pur .mov, [.t 0], none⟩,
    ⟨some 4, .call 228, [.k (.i (3)), .k (.s ⟨#[]⟩), .t 3], none⟩,
    ⟨none, .st (some 2) 3, [.t 2, .t 4], none⟩]) <|
  .ret
def f126 : AFunc := ⟨5, f126b, [.cell 2 3 true]⟩
/- 127 sluiceway/term.Share -/
def f127b : ACode :=
  .seq (.ops [
    ⟨some 2, .box .reg, [.t 0], none⟩,
    ⟨some 3, .box .reg, [.t 1], none⟩,
    ⟨some 4, .alloc .reg [.i (0), .s ⟨#[]⟩, .lst 0 true []], [], none⟩]) <|
  .seq (.seq (.ops [
    ⟨some 5, .ld (some 3) 3 true, [.t 3], none⟩,
    ⟨some 6, .ld (some 2) 3 true, [.t 2], none⟩,
    ⟨some 7, .call 229, [.t 5, .t 6], none⟩]) <|
  .cond (.t 7) (.ops [
      ⟨some 8, .ld (some 3) 3 true, [.t 3], none⟩,
      ⟨some 9, .ld (some 2) 3 true, [.t 2], none⟩,
      ⟨none, .st (some 2) 3, [.t 2, .t 8], none⟩,
      ⟨none, .st (some 3) 3, [.t 3, .t 9], none⟩]) (.skip)) <|
  .seq (.ops [
    ⟨some 10, .ld (some 2) 3 true, [.t 2], none⟩,
    ⟨some 11, .ld (some 3) 3 true, [.t 3], none⟩,
    ⟨some 12, .pur (.buildSl 3 2 [.i (0), .s ⟨#[]⟩, .lst 0 true []] [0, 1]), [.t 10, .t 11], none⟩,
    ⟨some 13, .call 228, [.k (.i (9)), .k (.s ⟨#[]⟩), .t 12], none⟩,
    ⟨none, .st (some 4) 3, [.t 4, .t 13], none⟩]) <|
  .ret
def f127 : AFunc := ⟨14, f127b, [.cell 4 3 true]⟩
/- 128 sluiceway/term.Enc -/
def f128b : ACode :=
  .seq (.ops [
    ⟨some 2, .box .reg, [.t 0], none⟩,
    ⟨some 3, .box .reg, [.t 1], none⟩,
    ⟨some 4, .alloc .reg [.i (0), .s ⟨#[]⟩, .lst 0 true []], [], none⟩]) <|
  .seq (.ops [
    ⟨some 5, .ld (some 2) 3 true, [.t 2], none⟩,
    ⟨some 6, .ld (some 3) 3 true, [.t 3], none⟩,
    ⟨some 7, .pur (.buildSl 3 2 [.i (0), .s ⟨#[]⟩, .lst 0 true []] [0, 1]), [.t 5, .t 6], none⟩,
    ⟨some 8, .call 228, [.k (.i (4)), .k (.s ⟨#[]⟩), .t 7], none⟩,
    ⟨none, .st (some 4) 3, [.t 4, .t 8], none⟩]) <|
  .ret
def f128 : AFunc := ⟨9, f128b, [.cell 4 3 true]⟩
/- 130 sluiceway/sluicewayref10.Atom -/
def f130b : ACode :=
  .seq (.ops [
    ⟨some 2, .alloc .reg [.i (0), .s ⟨#[]⟩, .lst 0 true []], [], none⟩]) <|
  .seq (.ops [
    ⟨some 3, .pur .mov, [.t 0], none⟩,
    ⟨some 4, .pur (.build [.i (0), .s ⟨#[]⟩, .lst 0 true []] [(0, 1), (1, 1)]), [.k (.i (2)), .t 3], none⟩,
    ⟨none, .st (some 2) 3, [.t 2, .t 4], none⟩]) <|
  .ret
def f130 : AFunc := ⟨5, f130b, [.cell 2 3 true]⟩
/- 139 sluiceway/sluicewayref10.Number -/
def f139b : ACode :=
  .seq (.ops [
    ⟨some 2, .pur .mov, [.k (.s ⟨#[]⟩)], none⟩]) <|
  .seq (.seq (.ops [
    ⟨some 3, .pur .mov, [.t 0], none⟩,
    ⟨some 4, .pur (.bin .lss), [.t 3, .k (.i (0))], none⟩]) <|
  .cond (.t 4) (.seq (.ops [
      ⟨some 5, .pur .mov, [.t 0], none⟩,
      ⟨some 6, .pur (.un .neg), [.t 5], none⟩,
      ⟨some 7, .call 249, [.t 6], none⟩,
      ⟨some 8, .pur (.bin .add), [.k (.s ⟨#[45]⟩), .t 7], none⟩,
      ⟨some 2, .pur .mov, [.t 8], none⟩]) <|
    .ret) (.skip)) <|
  .seq (.ops [
    ⟨some 9, .pur .mov, [.t 0], none⟩,
    ⟨some 10, .call 249, [.t 9], none⟩,
    ⟨some 2, .pur .mov, [.t 10], none⟩]) <|
  .ret
def f139 : AFunc := ⟨11, f139b, [.tmp 2]⟩
/- 142 sluiceway/sluicewayref10.Count -/
def f142_l0 : ACode :=
  .seq (.seq (.ops [
    ⟨some 5, .pur .mov, [.t 4], none⟩,
    ⟨some 6, .pur (.faddr 2), [.t 1], none⟩,
    ⟨some 7, .ld (some 1) 1 false, [.t 6], none⟩,
    ⟨some 8, .pur .lenL, [.t 7], none⟩,
    ⟨some 9, .pur (.bin .lss), [.t 5, .t 8], none⟩]) <|
  .cond (.t 9) (.skip) (.exit 0)) <|
  .seq (.block 1 (.ops [
      ⟨some 12, .pur .mov, [.t 3], none⟩,
      ⟨some 13, .pur (.faddr 2), [.t 1], none⟩,
      ⟨some 14, .ld (some 1) 1 false, [.t 13], none⟩,
      ⟨some 15, .pur .mov, [.t 4], none⟩,
      ⟨some 16, .pur (.iaddr 3), [.t 14, .t 15], none⟩,
      ⟨some 17, .ld none 3 true, [.t 16], none⟩,
      ⟨some 18, .call 142, [.t 17], none⟩,
      ⟨some 19, .pur (.bin .add), [.t 12, .t 18], none⟩,
      ⟨some 3, .pur .mov, [.t 19], none⟩])) <|
  .ops [
    ⟨some 10, .pur .mov, [.t 4], none⟩,
    ⟨some 11, .pur (.bin .add), [.t 10, .k (.i (1))], none⟩,
    ⟨some 4, .pur .mov, [.t 11], none⟩]
def f142b : ACode :=
  .seq (.ops [
    ⟨some 1, .box .reg, [.t 0], none⟩,
    ⟨some 2, .pur .mov, [.k (.i (0))], none⟩]) <|
  .seq (.ops [
    ⟨some 3, .pur .mov, [.k (.i (1))], none⟩]) <|
  .seq (.seq (.ops [
    ⟨some 4, .pur .mov, [.k (.i (0))], none⟩]) <|
  .block 0 (.loop [5, 6, 7, 8, 9, 10, 11, 12, 13, 14, 15, 16, 17, 18, 19] [] f142_l0)) <|
  .seq (.ops [
    ⟨some 20, .pur .mov, [.t 3], none⟩,
    ⟨some 2, .pur .mov, [.t 20], none⟩]) <|
  .ret
def f142 : AFunc := ⟨21, f142b, [.tmp 2]⟩
/- 161 sluiceway/sluicewayref10.Data -/
def f161b : ACode :=
  .seq (.ops [
    ⟨some 2, .alloc .reg [.i (0), .s ⟨#[]⟩, .lst 0 true []], [], none⟩]) <|
  .seq (.ops [
    ⟨some 3, .pur .mov, [.t 0], none⟩,
    ⟨some 4, .pur (.build [.i (0), .s ⟨#[]⟩, .lst 0 true []] [(0, 1), (1, 1)]), [.k (.i (1)), .t 3], none⟩,
    ⟨none, .st (some 2) 3, [.t 2, .t 4], none⟩]) <|
  .ret
def f161 : AFunc := ⟨5, f161b, [.cell 2 3 true]⟩
/- 191 slices.Concat[[]sluiceway/api.Term,sluiceway/api.Term] -/
def f191_l0 : ACode :=
  .seq (.ops [
    ⟨some 28, .pur (.bin .lss), [.t 27, .t 26], none⟩]) <|
  .seq (.cond (.t 28) (.skip) (.exit 2)) <|
  .seq (.block 3 (.seq (.ops [
      ⟨some 29, .pur (.iaddr 1), [.t 25, .t 27], none⟩,
      ⟨some 30, .ld none 1 false, [.t 29], none⟩,
      ⟨some 8, .pur .mov, [.t 30], none⟩]) <|
    .ops [
      ⟨some 31, .pur .mov, [.t 6], none⟩,
      ⟨some 32, .pur .mov, [.t 8], none⟩,
      ⟨some 33, .append 3 48, [.t 31, .t 32], none⟩,
      ⟨some 6, .pur .mov, [.t 33], none⟩])) <|
  .ops [
    ⟨some 34, .pur (.bin .add), [.t 27, .k (.i (1))], none⟩,
    ⟨some 27, .pur .mov, [.t 34], none⟩]

def f191_l1 : ACode :=
  .seq (.ops [
    ⟨some 12, .pur (.bin .lss), [.t 11, .t 10], none⟩]) <|
  .seq (.cond (.t 12) (.skip) (.exit 0)) <|
  .seq (.block 1 (.seq (.ops [
      ⟨some 13, .pur (.iaddr 1), [.t 9, .t 11], none⟩,
      ⟨some 14, .ld none 1 false, [.t 13], none⟩,
      ⟨some 5, .pur .mov, [.t 14], none⟩]) <|
    .seq (.ops [
      ⟨some 15, .pur .mov, [.t 3], none⟩,
      ⟨some 16, .pur .mov, [.t 5], none⟩,
      ⟨some 17, .pur .lenL, [.t 16], none⟩,
      ⟨some 18, .pur (.bin .add), [.t 15, .t 17], none⟩,
      ⟨some 3, .pur .mov, [.t 18], none⟩]) <|
    .seq (.ops [
      ⟨some 19, .pur .mov, [.t 3], none⟩,
      ⟨some 20, .pur (.bin .lss), [.t 19, .k (.i (0))], none⟩]) <|
    .cond (.t 20) (.ops [
        ⟨some 21, .bad, [], none⟩,
        ⟨none, .bad, [], none⟩]) (.skip))) <|
  .ops [
    ⟨some 22, .pur (.bin .add), [.t 11, .k (.i (1))], none⟩,
    ⟨some 11, .pur .mov, [.t 22], none⟩]
def f191b : ACode :=
  .seq (.ops [
    ⟨some 2, .pur .mov, [.k (.lst 0 true [])], none⟩]) <|
  .seq (.ops [
    ⟨some 3, .pur .mov, [.k (.i (0))], none⟩]) <|
  .seq (.seq (.ops [
    ⟨some 9, .pur .mov, [.t 0], none⟩,
    ⟨some 10, .pur .lenL, [.t 9], none⟩,
    ⟨some 11, .pur .mov, [.k (.i (0))], none⟩]) <|
  .block 0 (.loop [5, 12, 13, 14, 15, 16, 17, 18, 19, 20, 21, 22] [] f191_l1)) <|
  .seq (.ops [
    ⟨some 23, .pur .mov, [.t 3], none⟩,
    ⟨some 24, .call 304, [.k (.lst 0 true []), .t 23], none⟩,
    ⟨some 6, .pur .mov, [.t 24], none⟩]) <|
  .seq (.seq (.ops [
    ⟨some 25, .pur .mov, [.t 0], none⟩,
    ⟨some 26, .pur .lenL, [.t 25], none⟩,
    ⟨some 27, .pur .mov, [.k (.i (0))], none⟩]) <|
  .block 2 (.loop [8, 28, 29, 30, 31, 32, 33, 34] [] f191_l0)) <|
  .seq (.ops [
    ⟨some 35, .pur .mov, [.t 6], none⟩,
    ⟨some 2, .pur .mov, [.t 35], none⟩]) <|
  .ret
def f191 : AFunc := ⟨36, f191b, [.tmp 2]⟩
/- 192 sluiceway/term.Data -/
def f192b : ACode :=
  .seq (.ops [
    ⟨some 2, .alloc .reg [.i (0), .s ⟨#[]⟩, .lst 0 true []], [], none⟩]) <|
  .seq (.ops [
    ⟨some 3, .pur .mov, [.t 0], none⟩,
    ⟨some 4, .call 228, [.k (.i (1)), .t 3, .k (.lst 0 true [])], none⟩,
    ⟨none, .st (some 2) 3, [.t 2, .t 4], none⟩]) <|
  .ret
def f192 : AFunc := ⟨5, f192b, [.cell 2 3 true]⟩
/- 194 sluiceway/message.data -/
def f194b : ACode :=
  .seq (.ops [
    ⟨some 1, .box .reg, [.t 0], none⟩,
    ⟨some 2, .pur .mov, [.k (.s ⟨#[]⟩)], none⟩,
    ⟨some 3, .pur .mov, [.k (.b false)], none⟩]) <|
  .seq (.ops [
    ⟨some 4, .pur (.faddr 1), [.t 1], none⟩,
    ⟨some 5, .ld (some 1) 1 false, [.t 4], none⟩,
    ⟨some 6, .pur (.faddr 0), [.t 1], none⟩,
    ⟨some 7, .ld (some 1) 1 false, [.t 6], none⟩,
    ⟨some 8, .pur (.bin .eql), [.t 7, .k (.i (1))], none⟩,
    ⟨some 9, .pur .mov, [.t 8], none⟩,
    ⟨some 10, .pur (.faddr 2), [.t 1], some (9, true)⟩,
    ⟨some 11, .ld (some 1) 1 false, [.t 10], some (9, true)⟩,
    ⟨some 12, .pur .lenL, [.t 11], some (9, true)⟩,
    ⟨some 13, .pur (.bin .eql), [.t 12, .k (.i (0))], some (9, true)⟩,
    ⟨some 14, .pur .pick, [.t 9, .t 13, .k (.b false)], none⟩,
    ⟨some 2, .pur .mov, [.t 5], none⟩,
    ⟨some 3, .pur .mov, [.t 14], none⟩]) <|
  .ret
def f194 : AFunc := ⟨15, f194b, [.tmp 2, .tmp 3]⟩
/- 195 strings.CutPrefix -/
def f195b : ACode :=
  .seq (.ops [
    ⟨some 4, .pur .mov, [.k (.s ⟨#[]⟩)], none⟩,
    ⟨some 5, .pur .mov, [.k (.b false)], none⟩]) <|
  .seq (.ops [
    ⟨some 6, .pur .mov, [.t 0], none⟩,
    ⟨some 7, .pur .mov, [.t 1], none⟩,
    ⟨some 8, .call 306, [.t 6, .t 7], none⟩,
    ⟨some 9, .pur (.extract 0), [.t 8], none⟩,
    ⟨some 10, .pur (.extract 1), [.t 8], none⟩,
    ⟨some 4, .pur .mov, [.t 9], none⟩,
    ⟨some 5, .pur .mov, [.t 10], none⟩]) <|
  .ret
def f195 : AFunc := ⟨11, f195b, [.tmp 4, .tmp 5]⟩
/- 209 sluiceway/sluicewaylaw14.count -/
def f209_l0 : ACode :=
  .seq (.seq (.ops [
    ⟨some 5, .pur .mov, [.t 4], none⟩,
    ⟨some 6, .pur (.faddr 2), [.t 1], none⟩,
    ⟨some 7, .ld (some 1) 1 false, [.t 6], none⟩,
    ⟨some 8, .pur .lenL, [.t 7], none⟩,
    ⟨some 9, .pur (.bin .lss), [.t 5, .t 8], none⟩,
    ⟨some 10, .pur .mov, [.t 9], none⟩,
    ⟨some 11, .pur .mov, [.t 3], some (10, true)⟩,
    ⟨some 12, .pur (.bin .leq), [.t 11, .k (.i (60))], some (10, true)⟩,
    ⟨some 13, .pur .pick, [.t 10, .t 12, .k (.b false)], none⟩]) <|
  .cond (.t 13) (.skip) (.exit 0)) <|
  .seq (.block 1 (.ops [
      ⟨some 16, .pur .mov, [.t 3], none⟩,
      ⟨some 17, .pur (.faddr 2), [.t 1], none⟩,
      ⟨some 18, .ld (some 1) 1 false, [.t 17], none⟩,
      ⟨some 19, .pur .mov, [.t 4], none⟩,
      ⟨some 20, .pur (.iaddr 3), [.t 18, .t 19], none⟩,
      ⟨some 21, .ld none 3 true, [.t 20], none⟩,
      ⟨some 22, .call 209, [.t 21], none⟩,
      ⟨some 23, .pur (.bin .add), [.t 16, .t 22], none⟩,
      ⟨some 3, .pur .mov, [.t 23], none⟩])) <|
  .ops [
    ⟨some 14, .pur .mov, [.t 4], none⟩,
    ⟨some 15, .pur (.bin .add), [.t 14, .k (.i (1))], none⟩,
    ⟨some 4, .pur .mov, [.t 15], none⟩]
def f209b : ACode :=
  .seq (.ops [
    ⟨some 1, .box .reg, [.t 0], none⟩,
    ⟨some 2, .pur .mov, [.k (.i (0))], none⟩]) <|
  .seq (.ops [
    ⟨some 3, .pur .mov, [.k (.i (1))], none⟩]) <|
  .seq (.seq (.ops [
    ⟨some 4, .pur .mov, [.k (.i (0))], none⟩]) <|
  .block 0 (.loop [5, 6, 7, 8, 9, 10, 11, 12, 13, 14, 15, 16, 17, 18, 19, 20, 21, 22, 23] [] f209_l0)) <|
  .seq (.ops [
    ⟨some 24, .pur .mov, [.t 3], none⟩,
    ⟨some 25, .pur .min, [.t 24, .k (.i (61))], none⟩,
    ⟨some 2, .pur .mov, [.t 25], none⟩]) <|
  .ret
def f209 : AFunc := ⟨26, f209b, [.tmp 2]⟩
/- 210 sluiceway/cookie.fits -/
def f210b : ACode :=
  .seq (.ops [
    ⟨some 1, .box .reg, [.t 0], none⟩,
    ⟨some 2, .pur .mov, [.k (.b false)], none⟩]) <|
  .seq (.ops [
    ⟨some 3, .ld (some 1) 3 true, [.t 1], none⟩,
    ⟨some 4, .call 116, [.t 3], none⟩,
    ⟨some 5, .pur .mov, [.t 4], none⟩,
    ⟨some 6, .ld (some 1) 3 true, [.t 1], some (5, true)⟩,
    ⟨some 7, .call 117, [.t 6], some (5, true)⟩,
    ⟨some 8, .pur (.bin .leq), [.t 7, .k (.i (57))], some (5, true)⟩,
    ⟨some 9, .pur .pick, [.t 5, .t 8, .k (.b false)], none⟩,
    ⟨some 2, .pur .mov, [.t 9], none⟩]) <|
  .ret
def f210 : AFunc := ⟨10, f210b, [.tmp 2]⟩
/- 211 sluiceway/sluicewayref14.fits -/
def f211b : ACode :=
  .seq (.ops [
    ⟨some 1, .box .reg, [.t 0], none⟩,
    ⟨some 2, .pur .mov, [.k (.b false)], none⟩]) <|
  .seq (.ops [
    ⟨some 4, .ld (some 1) 3 true, [.t 1], none⟩,
    ⟨some 5, .call 219, [.t 4], none⟩,
    ⟨some 3, .pur .mov, [.t 5], none⟩]) <|
  .seq (.ops [
    ⟨some 6, .pur .mov, [.t 3], none⟩,
    ⟨some 7, .pur .mov, [.t 6], none⟩,
    ⟨some 8, .ld (some 1) 3 true, [.t 1], some (7, true)⟩,
    ⟨some 9, .call 314, [.t 8, .k (.i (61))], some (7, true)⟩,
    ⟨some 10, .pur (.bin .leq), [.t 9, .k (.i (57))], some (7, true)⟩,
    ⟨some 11, .pur .pick, [.t 7, .t 10, .k (.b false)], none⟩,
    ⟨some 2, .pur .mov, [.t 11], none⟩]) <|
  .ret
def f211 : AFunc := ⟨12, f211b, [.tmp 2]⟩
/- 212 sluiceway/sluicewayref14.data -/
def f212b : ACode :=
  .seq (.ops [
    ⟨some 2, .alloc .reg [.i (0), .s ⟨#[]⟩, .lst 0 true []], [], none⟩]) <|
  .seq (.ops [
    ⟨some 3, .pur .mov, [.t 0], none⟩,
    ⟨some 4, .pur (.build [.i (0), .s ⟨#[]⟩, .lst 0 true []] [(0, 1), (1, 1)]), [.k (.i (1)), .t 3], none⟩,
    ⟨none, .st (some 2) 3, [.t 2, .t 4], none⟩]) <|
  .ret
def f212 : AFunc := ⟨5, f212b, [.cell 2 3 true]⟩
/- 213 sluiceway/sluicewayref14.digits -/
def f213b : ACode :=
  .seq (.ops [
    ⟨some 2, .pur .mov, [.k (.s ⟨#[]⟩)], none⟩]) <|
  .seq (.seq (.ops [
    ⟨some 3, .pur .mov, [.t 0], none⟩,
    ⟨some 4, .pur (.bin .lss), [.t 3, .k (.i (0))], none⟩]) <|
  .cond (.t 4) (.seq (.seq (.ops [
      ⟨some 5, .pur .mov, [.t 0], none⟩,
      ⟨some 6, .pur (.bin .gtr), [.t 5, .k (.i (-10))], none⟩]) <|
    .cond (.t 6) (.seq (.ops [
        ⟨some 7, .pur .mov, [.t 0], none⟩,
        ⟨some 8, .pur (.bin .sub), [.k (.i (48)), .t 7], none⟩,
        ⟨some 9, .pur (.toInt .u8), [.t 8], none⟩,
        ⟨some 10, .pur (.buildSl 1 1 [.sc (.int .u8 (0))] [0]), [.t 9], none⟩,
        ⟨some 11, .pur .bytesStr, [.t 10], none⟩,
        ⟨some 12, .pur (.bin .add), [.k (.s ⟨#[45]⟩), .t 11], none⟩,
        ⟨some 2, .pur .mov, [.t 12], none⟩]) <|
      .ret) (.skip)) <|
    .seq (.ops [
      ⟨some 13, .pur .mov, [.t 0], none⟩,
      ⟨some 14, .pur (.bin .quo), [.t 13, .k (.i (10))], none⟩,
      ⟨some 15, .call 213, [.t 14], none⟩,
      ⟨some 16, .pur .mov, [.t 0], none⟩,
      ⟨some 17, .pur (.bin .rem), [.t 16, .k (.i (10))], none⟩,
      ⟨some 18, .pur (.bin .sub), [.k (.i (48)), .t 17], none⟩,
      ⟨some 19, .pur (.toInt .u8), [.t 18], none⟩,
      ⟨some 20, .pur (.buildSl 1 1 [.sc (.int .u8 (0))] [0]), [.t 19], none⟩,
      ⟨some 21, .pur .bytesStr, [.t 20], none⟩,
      ⟨some 22, .pur (.bin .add), [.t 15, .t 21], none⟩,
      ⟨some 2, .pur .mov, [.t 22], none⟩]) <|
    .ret) (.skip)) <|
  .seq (.seq (.ops [
    ⟨some 23, .pur .mov, [.t 0], none⟩,
    ⟨some 24, .pur (.bin .lss), [.t 23, .k (.i (10))], none⟩]) <|
  .cond (.t 24) (.seq (.ops [
      ⟨some 25, .pur .mov, [.t 0], none⟩,
      ⟨some 26, .pur (.bin .add), [.k (.i (48)), .t 25], none⟩,
      ⟨some 27, .pur (.toInt .u8), [.t 26], none⟩,
      ⟨some 28, .pur (.buildSl 1 1 [.sc (.int .u8 (0))] [0]), [.t 27], none⟩,
      ⟨some 29, .pur .bytesStr, [.t 28], none⟩,
      ⟨some 2, .pur .mov, [.t 29], none⟩]) <|
    .ret) (.skip)) <|
  .seq (.ops [
    ⟨some 30, .pur .mov, [.t 0], none⟩,
    ⟨some 31, .pur (.bin .quo), [.t 30, .k (.i (10))], none⟩,
    ⟨some 32, .call 213, [.t 31], none⟩,
    ⟨some 33, .pur .mov, [.t 0], none⟩,
    ⟨some 34, .pur (.bin .rem), [.t 33, .k (.i (10))], none⟩,
    ⟨some 35, .pur (.bin .add), [.k (.i (48)), .t 34], none⟩,
    ⟨some 36, .pur (.toInt .u8), [.t 35], none⟩,
    ⟨some 37, .pur (.buildSl 1 1 [.sc (.int .u8 (0))] [0]), [.t 36], none⟩,
    ⟨some 38, .pur .bytesStr, [.t 37], none⟩,
    ⟨some 39, .pur (.bin .add), [.t 32, .t 38], none⟩,
    ⟨some 2, .pur .mov, [.t 39], none⟩]) <|
  .ret
def f213 : AFunc := ⟨40, f213b, [.tmp 2]⟩
/- 214 (sluiceway/cookie.body).client -/
def f214b : ACode :=
  .seq (.ops [
    ⟨some 2, .box .reg, [.t 0], none⟩]) <|
  .ops [
    ⟨some 4, .pur .mov, [.t 1], none⟩,
    ⟨some 5, .ld (some 2) 3 true, [.t 2], none⟩,
    ⟨some 6, .call 315, [.t 5, .k (.i (1)), .k (.s ⟨#[99]⟩)], none⟩,
    ⟨some 7, .pur .nilchk, [.t 4], none⟩,
    ⟨some 8, .pur (.faddr 0), [.t 7], none⟩,
    ⟨none, .st none 1, [.t 8, .t 6], none⟩]
def f214 : AFunc := ⟨9, f214b, []⟩
/- 215 (sluiceway/cookie.body).nonce -/
def f215b : ACode :=
  .seq (.ops [
    ⟨some 2, .box .reg, [.t 0], none⟩]) <|
  .ops [
    ⟨some 4, .pur .mov, [.t 1], none⟩,
    ⟨some 5, .ld (some 2) 3 true, [.t 2], none⟩,
    ⟨some 6, .call 315, [.t 5, .k (.i (2)), .k (.s ⟨#[110]⟩)], none⟩,
    ⟨some 7, .pur .nilchk, [.t 4], none⟩,
    ⟨some 8, .pur (.faddr 1), [.t 7], none⟩,
    ⟨none, .st none 1, [.t 8, .t 6], none⟩]
def f215 : AFunc := ⟨9, f215b, []⟩
/- 216 (sluiceway/cookie.body).done -/
def f216_l0 : ACode :=
  .seq (.ops [
    ⟨some 16, .pur (.bin .lss), [.t 15, .t 14], none⟩]) <|
  .seq (.cond (.t 16) (.skip) (.exit 0)) <|
  .seq (.block 1 (.seq (.ops [
      ⟨some 17, .pur (.iaddr 3), [.t 13, .t 15], none⟩,
      ⟨some 18, .ld none 3 true, [.t 17], none⟩,
      ⟨some 5, .alloc .reg [.i (0), .s ⟨#[]⟩, .lst 0 true []], [], none⟩,
      ⟨none, .st (some 5) 3, [.t 5, .t 18], none⟩]) <|
    .seq (.ops [
      ⟨some 20, .pur (.faddr 1), [.t 5], none⟩,
      ⟨some 21, .ld (some 5) 1 false, [.t 20], none⟩,
      ⟨some 22, .call 195, [.t 21, .k (.s ⟨#[100]⟩)], none⟩,
      ⟨some 19, .pur .mov, [.t 22], none⟩,
      ⟨some 23, .pur (.extract 0), [.t 19], none⟩,
      ⟨some 24, .pur (.extract 1), [.t 19], none⟩,
      ⟨some 6, .pur .mov, [.t 23], none⟩,
      ⟨some 7, .pur .mov, [.t 24], none⟩]) <|
    .ops [
      ⟨some 25, .pur .mov, [.t 1], none⟩,
      ⟨some 26, .pur .mov, [.t 1], none⟩,
      ⟨some 27, .pur .nilchk, [.t 26], none⟩,
      ⟨some 28, .pur (.faddr 2), [.t 27], none⟩,
      ⟨some 29, .ld none 1 false, [.t 28], none⟩,
      ⟨some 30, .pur .mov, [.t 6], none⟩,
      ⟨some 31, .pur (.buildSl 1 1 [.s ⟨#[]⟩] [0]), [.t 30], none⟩,
      ⟨some 32, .append 1 16, [.t 29, .t 31], none⟩,
      ⟨some 33, .pur .nilchk, [.t 25], none⟩,
      ⟨some 34, .pur (.faddr 2), [.t 33], none⟩,
      ⟨none, .st none 1, [.t 34, .t 32], none⟩])) <|
  .ops [
    ⟨some 35, .pur (.bin .add), [.t 15, .k (.i (1))], none⟩,
    ⟨some 15, .pur .mov, [.t 35], none⟩]
def f216b : ACode :=
  .seq (.ops [
    ⟨some 2, .box .reg, [.t 0], none⟩]) <|
  .seq (.ops [
    ⟨some 8, .pur (.faddr 0), [.t 2], none⟩,
    ⟨some 9, .pur (.faddr 2), [.t 8], none⟩,
    ⟨some 10, .ld (some 2) 1 false, [.t 9], none⟩,
    ⟨some 11, .pur (.iaddr 3), [.t 10, .k (.i (3))], none⟩,
    ⟨some 12, .pur (.faddr 2), [.t 11], none⟩,
    ⟨some 13, .ld none 1 false, [.t 12], none⟩,
    ⟨some 14, .pur .lenL, [.t 13], none⟩,
    ⟨some 15, .pur .mov, [.k (.i (0))], none⟩]) <|
  .block 0 (.loop [5, 6, 7, 16, 17, 18, 19, 20, 21, 22, 23, 24, 25, 26, 27, 28, 29, 30, 31, 32, 33, 34, 35] [5] f216_l0)
def f216 : AFunc := ⟨36, f216b, []⟩
/- 217 (sluiceway/cookie.body).secret -/
def f217b : ACode :=
  .seq (.ops [
    ⟨some 2, .box .reg, [.t 0], none⟩]) <|
  .ops [
    ⟨some 4, .pur .mov, [.t 1], none⟩,
    ⟨some 5, .pur (.faddr 0), [.t 2], none⟩,
    ⟨some 6, .pur (.faddr 2), [.t 5], none⟩,
    ⟨some 7, .ld (some 2) 1 false, [.t 6], none⟩,
    ⟨some 8, .pur (.iaddr 3), [.t 7, .k (.i (4))], none⟩,
    ⟨some 9, .ld none 3 true, [.t 8], none⟩,
    ⟨some 10, .pur .nilchk, [.t 4], none⟩,
    ⟨some 11, .pur (.faddr 3), [.t 10], none⟩,
    ⟨none, .st none 3, [.t 11, .t 9], none⟩]
def f217 : AFunc := ⟨12, f217b, []⟩
/- 218 (sluiceway/cookie.body).until -/
def f218b : ACode :=
  .seq (.ops [
    ⟨some 2, .box .reg, [.t 0], none⟩]) <|
  .ops [
    ⟨some 5, .pur .mov, [.t 1], none⟩,
    ⟨some 6, .ld (some 2) 3 true, [.t 2], none⟩,
    ⟨some 7, .call 315, [.t 6, .k (.i (5)), .k (.s ⟨#[117]⟩)], none⟩,
    ⟨some 8, .call 196, [.t 7], none⟩,
    ⟨some 4, .pur .mov, [.t 8], none⟩,
    ⟨some 9, .pur (.extract 0), [.t 4], none⟩,
    ⟨some 10, .pur (.extract 1), [.t 4], none⟩,
    ⟨some 11, .pur .nilchk, [.t 5], none⟩,
    ⟨some 12, .pur (.faddr 6), [.t 11], none⟩,
    ⟨none, .st none 1, [.t 12, .t 9], none⟩]
def f218 : AFunc := ⟨13, f218b, []⟩
/- 219 sluiceway/sluicewayref07.Right -/
def f219b : ACode :=
  .seq (.ops [
    ⟨some 1, .box .reg, [.t 0], none⟩,
    ⟨some 2, .pur .mov, [.k (.b false)], none⟩]) <|
  .seq (.ops [
    ⟨some 3, .ld (some 1) 3 true, [.t 1], none⟩,
    ⟨some 4, .call 243, [.t 3], none⟩,
    ⟨some 5, .pur (.bin .neq), [.t 4, .k (.s ⟨#[]⟩)], none⟩,
    ⟨some 6, .pur .mov, [.t 5], none⟩,
    ⟨some 7, .ld (some 1) 3 true, [.t 1], some (6, true)⟩,
    ⟨some 8, .call 316, [.t 7], some (6, true)⟩,
    ⟨some 9, .pur .pick, [.t 6, .t 8, .k (.b false)], none⟩,
    ⟨some 2, .pur .mov, [.t 9], none⟩]) <|
  .ret
def f219 : AFunc := ⟨10, f219b, [.tmp 2]⟩
/- 220 sluiceway/sluicewayref14.read -/
def f220_l0 : ACode :=
  .seq (.seq (.ops [
    ⟨some 92, .pur .mov, [.t 14], none⟩,
    ⟨some 93, .pur (.faddr 2), [.t 1], none⟩,
    ⟨some 94, .ld (some 1) 1 false, [.t 93], none⟩,
    ⟨some 95, .pur (.iaddr 3), [.t 94, .k (.i (3))], none⟩,
    ⟨some 96, .pur (.faddr 2), [.t 95], none⟩,
    ⟨some 97, .ld none 1 false, [.t 96], none⟩,
    ⟨some 98, .pur .lenL, [.t 97], none⟩,
    ⟨some 99, .pur (.bin .lss), [.t 92, .t 98], none⟩]) <|
  .cond (.t 99) (.skip) (.exit 0)) <|
  .seq (.block 1 (.seq (.ops [
      ⟨some 103, .pur (.faddr 2), [.t 1], none⟩,
      ⟨some 104, .ld (some 1) 1 false, [.t 103], none⟩,
      ⟨some 105, .pur (.iaddr 3), [.t 104, .k (.i (3))], none⟩,
      ⟨some 106, .pur (.faddr 2), [.t 105], none⟩,
      ⟨some 107, .ld none 1 false, [.t 106], none⟩,
      ⟨some 108, .pur .mov, [.t 14], none⟩,
      ⟨some 109, .pur (.iaddr 3), [.t 107, .t 108], none⟩,
      ⟨some 110, .ld none 3 true, [.t 109], none⟩,
      ⟨some 111, .call 317, [.t 110, .k (.s ⟨#[100]⟩)], none⟩,
      ⟨some 102, .pur .mov, [.t 111], none⟩,
      ⟨some 112, .pur (.extract 0), [.t 102], none⟩,
      ⟨some 113, .pur (.extract 1), [.t 102], none⟩,
      ⟨some 15, .pur .mov, [.t 112], none⟩,
      ⟨some 16, .pur .mov, [.t 113], none⟩]) <|
    .seq (.ops [
      ⟨some 114, .pur .mov, [.t 13], none⟩,
      ⟨some 115, .pur .mov, [.t 114], none⟩,
      ⟨some 116, .pur .mov, [.t 16], some (115, true)⟩,
      ⟨some 117, .pur .pick, [.t 115, .t 116, .k (.b false)], none⟩,
      ⟨some 13, .pur .mov, [.t 117], none⟩]) <|
    .ops [
      ⟨some 118, .pur (.faddr 2), [.t 4], none⟩,
      ⟨some 119, .ld (some 4) 1 false, [.t 118], none⟩,
      ⟨some 120, .pur .mov, [.t 15], none⟩,
      ⟨some 121, .pur (.buildSl 1 1 [.s ⟨#[]⟩] [0]), [.t 120], none⟩,
      ⟨some 122, .append 1 16, [.t 119, .t 121], none⟩,
      ⟨some 123, .pur (.faddr 2), [.t 4], none⟩,
      ⟨none, .st (some 4) 1, [.t 123, .t 122], none⟩])) <|
  .ops [
    ⟨some 100, .pur .mov, [.t 14], none⟩,
    ⟨some 101, .pur (.bin .add), [.t 100, .k (.i (1))], none⟩,
    ⟨some 14, .pur .mov, [.t 101], none⟩]
def f220b : ACode :=
  .seq (.ops [
    ⟨some 1, .box .reg, [.t 0], none⟩,
    ⟨some 2, .alloc .reg [.s ⟨#[]⟩, .s ⟨#[]⟩, .lst 0 true [], .i (0), .s ⟨#[]⟩, .lst 0 true [], .i (0)], [], none⟩,
    ⟨some 3, .pur .mov, [.k (.b false)], none⟩]) <|
  .seq (.ops [
    ⟨some 18, .pur (.build [.s ⟨#[]⟩, .s ⟨#[]⟩, .lst 0 true [], .i (0), .s ⟨#[]⟩, .lst 0 true [], .i (0)] []), [], none⟩,
    ⟨some 4, .alloc .reg [.s ⟨#[]⟩, .s ⟨#[]⟩, .lst 0 true [], .i (0), .s ⟨#[]⟩, .lst 0 true [], .i (0)], [], none⟩,
    ⟨none, .st (some 4) 7, [.t 4, .t 18], none⟩]) <|
  .seq (.seq (.ops [
    ⟨some 19, .pur (.faddr 0), [.t 1], none⟩,
    ⟨some 20, .ld (some 1) 1 false, [.t 19], none⟩,
    ⟨some 21, .pur (.bin .neq), [.t 20, .k (.i (3))], none⟩,
    ⟨some 22, .pur .mov, [.t 21], none⟩,
    ⟨some 23, .pur (.faddr 2), [.t 1], some (22, false)⟩,
    ⟨some 24, .ld (some 1) 1 false, [.t 23], some (22, false)⟩,
    ⟨some 25, .pur .lenL, [.t 24], some (22, false)⟩,
    ⟨some 26, .pur (.bin .neq), [.t 25, .k (.i (6))], some (22, false)⟩,
    ⟨some 27, .pur .pick, [.t 22, .k (.b true), .t 26], none⟩,
    ⟨some 28, .pur .mov, [.t 27], none⟩,
    ⟨some 29, .pur (.faddr 2), [.t 1], some (28, false)⟩,
    ⟨some 30, .ld (some 1) 1 false, [.t 29], some (28, false)⟩,
    ⟨some 31, .pur (.iaddr 3), [.t 30, .k (.i (0))], some (28, false)⟩,
    ⟨some 32, .pur (.faddr 0), [.t 31], some (28, false)⟩,
    ⟨some 33, .ld none 1 false, [.t 32], some (28, false)⟩,
    ⟨some 34, .pur (.bin .neq), [.t 33, .k (.i (1))], some (28, false)⟩,
    ⟨some 35, .pur .pick, [.t 28, .k (.b true), .t 34], none⟩,
    ⟨some 36, .pur .mov, [.t 35], none⟩,
    ⟨some 37, .pur (.faddr 2), [.t 1], some (36, false)⟩,
    ⟨some 38, .ld (some 1) 1 false, [.t 37], some (36, false)⟩,
    ⟨some 39, .pur (.iaddr 3), [.t 38, .k (.i (0))], some (36, false)⟩,
    ⟨some 40, .pur (.faddr 1), [.t 39], some (36, false)⟩,
    ⟨some 41, .ld none 1 false, [.t 40], some (36, false)⟩,
    ⟨some 42, .pur (.bin .neq), [.t 41, .k (.s ⟨#[99, 111, 111, 107, 105, 101]⟩)], some (36, false)⟩,
    ⟨some 43, .pur .pick, [.t 36, .k (.b true), .t 42], none⟩,
    ⟨some 44, .pur .mov, [.t 43], none⟩,
    ⟨some 45, .pur (.faddr 2), [.t 1], some (44, false)⟩,
    ⟨some 46, .ld (some 1) 1 false, [.t 45], some (44, false)⟩,
    ⟨some 47, .pur (.iaddr 3), [.t 46, .k (.i (3))], some (44, false)⟩,
    ⟨some 48, .pur (.faddr 0), [.t 47], some (44, false)⟩,
    ⟨some 49, .ld none 1 false, [.t 48], some (44, false)⟩,
    ⟨some 50, .pur (.bin .neq), [.t 49, .k (.i (3))], some (44, false)⟩,
    ⟨some 51, .pur .pick, [.t 44, .k (.b true), .t 50], none⟩]) <|
  .cond (.t 51) (.seq (.ops [
      ⟨some 52, .ld (some 4) 7 true, [.t 4], none⟩,
      ⟨none, .st (some 2) 7, [.t 2, .t 52], none⟩,
      ⟨some 3, .pur .mov, [.k (.b false)], none⟩]) <|
    .ret) (.skip)) <|
  .seq (.ops [
    ⟨some 54, .pur (.faddr 2), [.t 1], none⟩,
    ⟨some 55, .ld (some 1) 1 false, [.t 54], none⟩,
    ⟨some 56, .pur (.iaddr 3), [.t 55, .k (.i (1))], none⟩,
    ⟨some 57, .ld none 3 true, [.t 56], none⟩,
    ⟨some 58, .call 317, [.t 57, .k (.s ⟨#[99]⟩)], none⟩,
    ⟨some 53, .pur .mov, [.t 58], none⟩,
    ⟨some 59, .pur (.extract 0), [.t 53], none⟩,
    ⟨some 60, .pur (.extract 1), [.t 53], none⟩,
    ⟨some 5, .pur .mov, [.t 59], none⟩,
    ⟨some 6, .pur .mov, [.t 60], none⟩]) <|
  .seq (.ops [
    ⟨some 62, .pur (.faddr 2), [.t 1], none⟩,
    ⟨some 63, .ld (some 1) 1 false, [.t 62], none⟩,
    ⟨some 64, .pur (.iaddr 3), [.t 63, .k (.i (2))], none⟩,
    ⟨some 65, .ld none 3 true, [.t 64], none⟩,
    ⟨some 66, .call 317, [.t 65, .k (.s ⟨#[110]⟩)], none⟩,
    ⟨some 61, .pur .mov, [.t 66], none⟩,
    ⟨some 67, .pur (.extract 0), [.t 61], none⟩,
    ⟨some 68, .pur (.extract 1), [.t 61], none⟩,
    ⟨some 7, .pur .mov, [.t 67], none⟩,
    ⟨some 8, .pur .mov, [.t 68], none⟩]) <|
  .seq (.ops [
    ⟨some 70, .pur (.faddr 2), [.t 1], none⟩,
    ⟨some 71, .ld (some 1) 1 false, [.t 70], none⟩,
    ⟨some 72, .pur (.iaddr 3), [.t 71, .k (.i (5))], none⟩,
    ⟨some 73, .ld none 3 true, [.t 72], none⟩,
    ⟨some 74, .call 317, [.t 73, .k (.s ⟨#[117]⟩)], none⟩,
    ⟨some 69, .pur .mov, [.t 74], none⟩,
    ⟨some 75, .pur (.extract 0), [.t 69], none⟩,
    ⟨some 76, .pur (.extract 1), [.t 69], none⟩,
    ⟨some 9, .pur .mov, [.t 75], none⟩,
    ⟨some 10, .pur .mov, [.t 76], none⟩]) <|
  .seq (.ops [
    ⟨some 78, .pur .mov, [.t 9], none⟩,
    ⟨some 79, .call 318, [.t 78], none⟩,
    ⟨some 77, .pur .mov, [.t 79], none⟩,
    ⟨some 80, .pur (.extract 0), [.t 77], none⟩,
    ⟨some 81, .pur (.extract 1), [.t 77], none⟩,
    ⟨some 11, .pur .mov, [.t 80], none⟩,
    ⟨some 12, .pur .mov, [.t 81], none⟩]) <|
  .seq (.ops [
    ⟨some 82, .pur .mov, [.t 6], none⟩,
    ⟨some 83, .pur .mov, [.t 82], none⟩,
    ⟨some 84, .pur .mov, [.t 8], some (83, true)⟩,
    ⟨some 85, .pur .pick, [.t 83, .t 84, .k (.b false)], none⟩,
    ⟨some 86, .pur .mov, [.t 85], none⟩,
    ⟨some 87, .pur .mov, [.t 10], some (86, true)⟩,
    ⟨some 88, .pur .pick, [.t 86, .t 87, .k (.b false)], none⟩,
    ⟨some 89, .pur .mov, [.t 88], none⟩,
    ⟨some 90, .pur .mov, [.t 12], some (89, true)⟩,
    ⟨some 91, .pur .pick, [.t 89, .t 90, .k (.b false)], none⟩,
    ⟨some 13, .pur .mov, [.t 91], none⟩]) <|
  .seq (.seq (.ops [
    ⟨some 14, .pur .mov, [.k (.i (0))], none⟩]) <|
  .block 0 (.loop [15, 16, 92, 93, 94, 95, 96, 97, 98, 99, 100, 101, 102, 103, 104, 105, 106, 107, 108, 109, 110, 111, 112, 113, 114, 115, 116, 117, 118, 119, 120, 121, 122, 123] [] f220_l0)) <|
  .seq (.ops [
    ⟨some 124, .pur (.faddr 2), [.t 1], none⟩,
    ⟨some 125, .ld (some 1) 1 false, [.t 124], none⟩,
    ⟨some 126, .pur (.iaddr 3), [.t 125, .k (.i (4))], none⟩,
    ⟨some 127, .ld none 3 true, [.t 126], none⟩,
    ⟨some 128, .call 211, [.t 127], none⟩,
    ⟨some 17, .pur .mov, [.t 128], none⟩]) <|
  .seq (.ops [
    ⟨some 129, .pur .mov, [.t 5], none⟩,
    ⟨some 130, .pur (.faddr 0), [.t 4], none⟩,
    ⟨none, .st (some 4) 1, [.t 130, .t 129], none⟩]) <|
  .seq (.ops [
    ⟨some 131, .pur .mov, [.t 7], none⟩,
    ⟨some 132, .pur (.faddr 1), [.t 4], none⟩,
    ⟨none, .st (some 4) 1, [.t 132, .t 131], none⟩]) <|
  .seq (.ops [
    ⟨some 133, .pur .mov, [.t 11], none⟩,
    ⟨some 134, .pur (.faddr 6), [.t 4], none⟩,
    ⟨none, .st (some 4) 1, [.t 134, .t 133], none⟩]) <|
  .seq (.ops [
    ⟨some 135, .pur (.faddr 2), [.t 1], none⟩,
    ⟨some 136, .ld (some 1) 1 false, [.t 135], none⟩,
    ⟨some 137, .pur (.iaddr 3), [.t 136, .k (.i (4))], none⟩,
    ⟨some 138, .ld none 3 true, [.t 137], none⟩,
    ⟨some 139, .pur (.faddr 3), [.t 4], none⟩,
    ⟨none, .st (some 4) 3, [.t 139, .t 138], none⟩]) <|
  .seq (.ops [
    ⟨some 140, .ld (some 4) 7 true, [.t 4], none⟩,
    ⟨some 141, .pur .mov, [.t 13], none⟩,
    ⟨some 142, .pur .mov, [.t 141], none⟩,
    ⟨some 143, .pur .mov, [.t 17], some (142, true)⟩,
    ⟨some 144, .pur .pick, [.t 142, .t 143, .k (.b false)], none⟩,
    ⟨none, .st (some 2) 7, [.t 2, .t 140], none⟩,
    ⟨some 3, .pur .mov, [.t 144], none⟩]) <|
  .ret
def f220 : AFunc := ⟨145, f220b, [.cell 2 7 true, .tmp 3]⟩
/- 221 sluiceway/term.shape -/
def f221b : ACode :=
  .seq (.ops [
    ⟨some 2, .box .reg, [.t 0], none⟩,
    ⟨some 3, .pur .ibox, [.t 1], none⟩,
    ⟨some 4, .pur .mov, [.k (.b false)], none⟩]) <|
  .seq (.seq (.ops [
    ⟨some 6, .ld none 1 false, [.t 3], none⟩,
    ⟨some 7, .pur (.bin .eql), [.t 6, .k (.i (0))], none⟩,
    ⟨some 8, .pur .mov, [.t 7], none⟩,
    ⟨some 9, .ld (some 2) 3 true, [.t 2], some (8, false)⟩,
    ⟨some 10, .call 319, [.t 9], some (8, false)⟩,
    ⟨some 11, .pur (.un .not), [.t 10], some (8, false)⟩,
    ⟨some 12, .pur .pick, [.t 8, .k (.b true), .t 11], none⟩,
    ⟨some 13, .pur .mov, [.t 12], none⟩,
    ⟨some 14, .pur (.faddr 0), [.t 2], some (13, false)⟩,
    ⟨some 15, .ld (some 2) 1 false, [.t 14], some (13, false)⟩,
    ⟨some 16, .pur (.iaddrA 3 11), [.g 0, .t 15], some (13, false)⟩,
    ⟨some 17, .pur (.faddr 2), [.t 16], some (13, false)⟩,
    ⟨some 18, .ld none 1 false, [.t 17], some (13, false)⟩,
    ⟨some 19, .pur (.faddr 1), [.t 2], some (13, false)⟩,
    ⟨some 20, .ld (some 2) 1 false, [.t 19], some (13, false)⟩,
    ⟨some 21, .pur (.bin .eql), [.t 20, .k (.s ⟨#[]⟩)], some (13, false)⟩,
    ⟨some 22, .pur (.eqB false), [.t 18, .t 21], some (13, false)⟩,
    ⟨some 23, .pur .pick, [.t 13, .k (.b true), .t 22], none⟩]) <|
  .cond (.t 23) (.seq (.ops [
      ⟨some 4, .pur .mov, [.k (.b false)], none⟩]) <|
    .ret) (.skip)) <|
  .seq (.seq (.ops [
    ⟨some 24, .pur (.faddr 0), [.t 2], none⟩,
    ⟨some 25, .ld (some 2) 1 false, [.t 24], none⟩,
    ⟨some 26, .pur (.iaddrA 3 11), [.g 0, .t 25], none⟩,
    ⟨some 27, .pur (.faddr 1), [.t 26], none⟩,
    ⟨some 28, .ld none 1 false, [.t 27], none⟩,
    ⟨some 5, .pur .mov, [.t 28], none⟩]) <|
  .seq (.ops [
    ⟨some 29, .pur .mov, [.t 5], none⟩,
    ⟨some 30, .pur (.bin .geq), [.t 29, .k (.i (0))], none⟩,
    ⟨some 31, .pur .mov, [.t 30], none⟩,
    ⟨some 32, .pur (.faddr 2), [.t 2], some (31, true)⟩,
    ⟨some 33, .ld (some 2) 1 false, [.t 32], some (31, true)⟩,
    ⟨some 34, .pur .lenL, [.t 33], some (31, true)⟩,
    ⟨some 35, .pur .mov, [.t 5], some (31, true)⟩,
    ⟨some 36, .pur (.bin .neq), [.t 34, .t 35], some (31, true)⟩,
    ⟨some 37, .pur .pick, [.t 31, .t 36, .k (.b false)], none⟩]) <|
  .cond (.t 37) (.seq (.ops [
      ⟨some 4, .pur .mov, [.k (.b false)], none⟩]) <|
    .ret) (.skip)) <|
  .seq (.ops [
    ⟨some 38, .pur (.faddr 2), [.t 2], none⟩,
    ⟨some 39, .ld (some 2) 1 false, [.t 38], none⟩,
    ⟨some 40, .pur (.mkfn 321 0), [.t 3], none⟩,
    ⟨some 41, .call 320, [.t 39, .t 40], none⟩,
    ⟨some 42, .pur (.un .not), [.t 41], none⟩,
    ⟨some 4, .pur .mov, [.t 42], none⟩]) <|
  .ret
def f221 : AFunc := ⟨43, f221b, [.tmp 4]⟩
/- 222 sluiceway/term.ordered -/
def f222b : ACode :=
  .seq (.ops [
    ⟨some 1, .box .reg, [.t 0], none⟩,
    ⟨some 2, .pur .mov, [.k (.b false)], none⟩]) <|
  .seq (.seq (.ops [
    ⟨some 3, .pur (.faddr 0), [.t 1], none⟩,
    ⟨some 4, .ld (some 1) 1 false, [.t 3], none⟩,
    ⟨some 5, .pur (.bin .eql), [.t 4, .k (.i (9))], none⟩,
    ⟨some 6, .pur .mov, [.t 5], none⟩,
    ⟨some 7, .pur (.faddr 2), [.t 1], some (6, true)⟩,
    ⟨some 8, .ld (some 1) 1 false, [.t 7], some (6, true)⟩,
    ⟨some 9, .pur (.iaddr 3), [.t 8, .k (.i (1))], some (6, true)⟩,
    ⟨some 10, .ld none 3 true, [.t 9], some (6, true)⟩,
    ⟨some 11, .call 227, [.t 10], some (6, true)⟩,
    ⟨some 12, .pur (.faddr 2), [.t 1], some (6, true)⟩,
    ⟨some 13, .ld (some 1) 1 false, [.t 12], some (6, true)⟩,
    ⟨some 14, .pur (.iaddr 3), [.t 13, .k (.i (0))], some (6, true)⟩,
    ⟨some 15, .ld none 3 true, [.t 14], some (6, true)⟩,
    ⟨some 16, .call 227, [.t 15], some (6, true)⟩,
    ⟨some 17, .pur (.bin .lss), [.t 11, .t 16], some (6, true)⟩,
    ⟨some 18, .pur .pick, [.t 6, .t 17, .k (.b false)], none⟩]) <|
  .cond (.t 18) (.seq (.ops [
      ⟨some 2, .pur .mov, [.k (.b false)], none⟩]) <|
    .ret) (.skip)) <|
  .seq (.ops [
    ⟨some 19, .pur (.faddr 2), [.t 1], none⟩,
    ⟨some 20, .ld (some 1) 1 false, [.t 19], none⟩,
    ⟨some 21, .call 320, [.t 20, .k (.fn 322 [] [])], none⟩,
    ⟨some 22, .pur (.un .not), [.t 21], none⟩,
    ⟨some 2, .pur .mov, [.t 22], none⟩]) <|
  .ret
def f222 : AFunc := ⟨23, f222b, [.tmp 2]⟩
/- 223 sluiceway/term.depth -/
def f223_l0 : ACode :=
  .seq (.ops [
    ⟨some 15, .pur (.bin .lss), [.t 14, .t 13], none⟩]) <|
  .seq (.cond (.t 15) (.skip) (.exit 0)) <|
  .seq (.block 1 (.seq (.ops [
      ⟨some 16, .pur (.iaddr 3), [.t 12, .t 14], none⟩,
      ⟨some 17, .ld none 3 true, [.t 16], none⟩,
      ⟨some 7, .alloc .reg [.i (0), .s ⟨#[]⟩, .lst 0 true []], [], none⟩,
      ⟨none, .st (some 7) 3, [.t 7, .t 17], none⟩]) <|
    .ops [
      ⟨some 18, .pur .mov, [.t 5], none⟩,
      ⟨some 19, .ld (some 7) 3 true, [.t 7], none⟩,
      ⟨some 20, .pur .mov, [.t 1], none⟩,
      ⟨some 21, .pur (.bin .sub), [.t 20, .k (.i (1))], none⟩,
      ⟨some 22, .call 223, [.t 19, .t 21], none⟩,
      ⟨some 23, .pur .max, [.t 18, .t 22], none⟩,
      ⟨some 5, .pur .mov, [.t 23], none⟩])) <|
  .ops [
    ⟨some 24, .pur (.bin .add), [.t 14, .k (.i (1))], none⟩,
    ⟨some 14, .pur .mov, [.t 24], none⟩]
def f223b : ACode :=
  .seq (.ops [
    ⟨some 2, .box .reg, [.t 0], none⟩,
    ⟨some 4, .pur .mov, [.k (.i (0))], none⟩]) <|
  .seq (.seq (.ops [
    ⟨some 8, .pur .mov, [.t 1], none⟩,
    ⟨some 9, .pur (.bin .leq), [.t 8, .k (.i (1))], none⟩]) <|
  .cond (.t 9) (.seq (.ops [
      ⟨some 10, .pur .mov, [.t 1], none⟩,
      ⟨some 4, .pur .mov, [.t 10], none⟩]) <|
    .ret) (.skip)) <|
  .seq (.ops [
    ⟨some 5, .pur .mov, [.k (.i (0))], none⟩]) <|
  .seq (.seq (.ops [
    ⟨some 11, .pur (.faddr 2), [.t 2], none⟩,
    ⟨some 12, .ld (some 2) 1 false, [.t 11], none⟩,
    ⟨some 13, .pur .lenL, [.t 12], none⟩,
    ⟨some 14, .pur .mov, [.k (.i (0))], none⟩]) <|
  .block 0 (.loop [7, 15, 16, 17, 18, 19, 20, 21, 22, 23, 24] [7] f223_l0)) <|
  .seq (.ops [
    ⟨some 25, .pur .mov, [.t 5], none⟩,
    ⟨some 26, .pur (.bin .add), [.t 25, .k (.i (1))], none⟩,
    ⟨some 4, .pur .mov, [.t 26], none⟩]) <|
  .ret
def f223 : AFunc := ⟨27, f223b, [.tmp 4]⟩
/- 224 slices.EqualFunc[[]sluiceway/api.Term,[]sluiceway/api.Term,sluiceway/api.Term,sluiceway/api.Term] -/
def f224_l0 : ACode :=
  .seq (.ops [
    ⟨some 18, .pur (.bin .lss), [.t 17, .t 16], none⟩]) <|
  .seq (.cond (.t 18) (.skip) (.exit 0)) <|
  .seq (.block 1 (.seq (.ops [
      ⟨some 19, .pur .mov, [.t 17], none⟩,
      ⟨some 20, .pur (.iaddr 3), [.t 15, .t 17], none⟩,
      ⟨some 21, .ld none 3 true, [.t 20], none⟩,
      ⟨some 8, .alloc .reg [.i (0), .s ⟨#[]⟩, .lst 0 true []], [], none⟩,
      ⟨some 7, .pur .mov, [.t 19], none⟩,
      ⟨none, .st (some 8) 3, [.t 8, .t 21], none⟩]) <|
    .seq (.ops [
      ⟨some 22, .pur .mov, [.t 1], none⟩,
      ⟨some 23, .pur .mov, [.t 7], none⟩,
      ⟨some 24, .pur (.iaddr 3), [.t 22, .t 23], none⟩,
      ⟨some 25, .ld none 3 true, [.t 24], none⟩,
      ⟨some 9, .alloc .reg [.i (0), .s ⟨#[]⟩, .lst 0 true []], [], none⟩,
      ⟨none, .st (some 9) 3, [.t 9, .t 25], none⟩]) <|
    .seq (.ops [
      ⟨some 26, .pur .mov, [.t 2], none⟩,
      ⟨some 27, .ld (some 8) 3 true, [.t 8], none⟩,
      ⟨some 28, .ld (some 9) 3 true, [.t 9], none⟩,
      ⟨some 29, .callv, [.t 26, .t 27, .t 28], none⟩,
      ⟨some 30, .pur (.un .not), [.t 29], none⟩]) <|
    .cond (.t 30) (.seq (.ops [
        ⟨some 6, .pur .mov, [.k (.b false)], none⟩]) <|
      .ret) (.skip))) <|
  .ops [
    ⟨some 31, .pur (.bin .add), [.t 17, .k (.i (1))], none⟩,
    ⟨some 17, .pur .mov, [.t 31], none⟩]
def f224b : ACode :=
  .seq (.ops [
    ⟨some 6, .pur .mov, [.k (.b false)], none⟩]) <|
  .seq (.seq (.ops [
    ⟨some 10, .pur .mov, [.t 0], none⟩,
    ⟨some 11, .pur .lenL, [.t 10], none⟩,
    ⟨some 12, .pur .mov, [.t 1], none⟩,
    ⟨some 13, .pur .lenL, [.t 12], none⟩,
    ⟨some 14, .pur (.bin .neq), [.t 11, .t 13], none⟩]) <|
  .cond (.t 14) (.seq (.ops [
      ⟨some 6, .pur .mov, [.k (.b false)], none⟩]) <|
    .ret) (.skip)) <|
  .seq (.seq (.ops [
    ⟨some 15, .pur .mov, [.t 0], none⟩,
    ⟨some 16, .pur .lenL, [.t 15], none⟩,
    ⟨some 17, .pur .mov, [.k (.i (0))], none⟩]) <|
  .block 0 (.loop [6, 7, 8, 9, 18, 19, 20, 21, 22, 23, 24, 25, 26, 27, 28, 29, 30, 31] [8, 9] f224_l0)) <|
  .seq (.ops [
    ⟨some 6, .pur .mov, [.k (.b true)], none⟩]) <|
  .ret
def f224 : AFunc := ⟨32, f224b, [.tmp 6]⟩
/- 227 sluiceway/term.text -/
def f227_l0 : ACode :=
  .seq (.ops [
    ⟨some 39, .pur (.bin .lss), [.t 38, .t 37], none⟩]) <|
  .seq (.cond (.t 39) (.skip) (.exit 0)) <|
  .seq (.block 1 (.seq (.ops [
      ⟨some 40, .pur (.iaddr 3), [.t 36, .t 38], none⟩,
      ⟨some 41, .ld none 3 true, [.t 40], none⟩,
      ⟨some 6, .alloc .reg [.i (0), .s ⟨#[]⟩, .lst 0 true []], [], none⟩,
      ⟨none, .st (some 6) 3, [.t 6, .t 41], none⟩]) <|
    .ops [
      ⟨some 42, .pur .mov, [.t 4], none⟩,
      ⟨some 43, .ld (some 6) 3 true, [.t 6], none⟩,
      ⟨some 44, .call 227, [.t 43], none⟩,
      ⟨some 45, .pur (.buildSl 1 1 [.s ⟨#[]⟩] [0]), [.t 44], none⟩,
      ⟨some 46, .append 1 16, [.t 42, .t 45], none⟩,
      ⟨some 4, .pur .mov, [.t 46], none⟩])) <|
  .ops [
    ⟨some 47, .pur (.bin .add), [.t 38, .k (.i (1))], none⟩,
    ⟨some 38, .pur .mov, [.t 47], none⟩]
def f227b : ACode :=
  .seq (.ops [
    ⟨some 1, .box .reg, [.t 0], none⟩,
    ⟨some 2, .pur .mov, [.k (.s ⟨#[]⟩)], none⟩]) <|
  .seq (.ops [
    ⟨some 7, .pur (.faddr 0), [.t 1], none⟩,
    ⟨some 8, .ld (some 1) 1 false, [.t 7], none⟩,
    ⟨some 9, .pur (.iaddrA 3 11), [.g 0, .t 8], none⟩,
    ⟨some 10, .pur (.faddr 0), [.t 9], none⟩,
    ⟨some 11, .ld none 1 false, [.t 10], none⟩,
    ⟨some 3, .pur .mov, [.t 11], none⟩]) <|
  .seq (.seq (.ops [
    ⟨some 12, .pur (.faddr 1), [.t 1], none⟩,
    ⟨some 13, .ld (some 1) 1 false, [.t 12], none⟩,
    ⟨some 14, .pur (.bin .neq), [.t 13, .k (.s ⟨#[]⟩)], none⟩]) <|
  .cond (.t 14) (.ops [
      ⟨some 15, .pur .mov, [.t 3], none⟩,
      ⟨some 16, .pur (.faddr 1), [.t 1], none⟩,
      ⟨some 17, .ld (some 1) 1 false, [.t 16], none⟩,
      ⟨some 18, .pur .lenS, [.t 17], none⟩,
      ⟨some 19, .call 193, [.t 18], none⟩,
      ⟨some 20, .pur (.bin .add), [.t 19, .k (.s ⟨#[58]⟩)], none⟩,
      ⟨some 21, .pur (.faddr 1), [.t 1], none⟩,
      ⟨some 22, .ld (some 1) 1 false, [.t 21], none⟩,
      ⟨some 23, .pur (.bin .add), [.t 20, .t 22], none⟩,
      ⟨some 24, .pur (.bin .add), [.t 15, .t 23], none⟩,
      ⟨some 3, .pur .mov, [.t 24], none⟩]) (.skip)) <|
  .seq (.seq (.ops [
    ⟨some 25, .pur (.faddr 2), [.t 1], none⟩,
    ⟨some 26, .ld (some 1) 1 false, [.t 25], none⟩,
    ⟨some 27, .pur .lenL, [.t 26], none⟩,
    ⟨some 28, .pur (.bin .eql), [.t 27, .k (.i (0))], none⟩,
    ⟨some 29, .pur .mov, [.t 28], none⟩,
    ⟨some 30, .pur (.faddr 0), [.t 1], some (29, true)⟩,
    ⟨some 31, .ld (some 1) 1 false, [.t 30], some (29, true)⟩,
    ⟨some 32, .pur (.bin .neq), [.t 31, .k (.i (3))], some (29, true)⟩,
    ⟨some 33, .pur .pick, [.t 29, .t 32, .k (.b false)], none⟩]) <|
  .cond (.t 33) (.seq (.ops [
      ⟨some 34, .pur .mov, [.t 3], none⟩,
      ⟨some 2, .pur .mov, [.t 34], none⟩]) <|
    .ret) (.skip)) <|
  .seq (.ops [
    ⟨some 4, .pur .mov, [.k (.lst 0 true [])], none⟩]) <|
  .seq (.seq (.ops [
    ⟨some 35, .pur (.faddr 2), [.t 1], none⟩,
    ⟨some 36, .ld (some 1) 1 false, [.t 35], none⟩,
    ⟨some 37, .pur .lenL, [.t 36], none⟩,
    ⟨some 38, .pur .mov, [.k (.i (0))], none⟩]) <|
  .block 0 (.loop [6, 39, 40, 41, 42, 43, 44, 45, 46, 47] [6] f227_l0)) <|
  .seq (.ops [
    ⟨some 48, .pur .mov, [.t 3], none⟩,
    ⟨some 49, .pur (.bin .add), [.t 48, .k (.s ⟨#[40]⟩)], none⟩,
    ⟨some 50, .pur .mov, [.t 4], none⟩,
    ⟨some 51, .call 324, [.t 50, .k (.s ⟨#[44]⟩)], none⟩,
    ⟨some 52, .pur (.bin .add), [.t 49, .t 51], none⟩,
    ⟨some 53, .pur (.bin .add), [.t 52, .k (.s ⟨#[41]⟩)], none⟩,
    ⟨some 2, .pur .mov, [.t 53], none⟩]) <|
  .ret
def f227 : AFunc := ⟨54, f227b, [.tmp 2]⟩
/- 228 sluiceway/term.made -/
def f228b : ACode :=
  .seq (.ops [
    ⟨some 6, .alloc .reg [.i (0), .s ⟨#[]⟩, .lst 0 true []], [], none⟩]) <|
  .seq (.ops [
    ⟨some 7, .pur .mov, [.t 0], none⟩,
    ⟨some 8, .pur .mov, [.t 1], none⟩,
    ⟨some 9, .pur .mov, [.t 2], none⟩,
    ⟨some 10, .call 256, [.t 9], none⟩,
    ⟨some 11, .pur (.build [.i (0), .s ⟨#[]⟩, .lst 0 true []] [(0, 1), (1, 1), (2, 1)]), [.t 7, .t 8, .t 10], none⟩,
    ⟨none, .st (some 6) 3, [.t 6, .t 11], none⟩]) <|
  .ret
def f228 : AFunc := ⟨12, f228b, [.cell 6 3 true]⟩
/- 229 sluiceway/term.Less -/
def f229b : ACode :=
  .seq (.ops [
    ⟨some 2, .box .reg, [.t 0], none⟩,
    ⟨some 3, .box .reg, [.t 1], none⟩,
    ⟨some 4, .pur .mov, [.k (.b false)], none⟩]) <|
  .seq (.ops [
    ⟨some 5, .ld (some 2) 3 true, [.t 2], none⟩,
    ⟨some 6, .call 121, [.t 5], none⟩,
    ⟨some 7, .ld (some 3) 3 true, [.t 3], none⟩,
    ⟨some 8, .call 121, [.t 7], none⟩,
    ⟨some 9, .pur (.bin .lss), [.t 6, .t 8], none⟩,
    ⟨some 4, .pur .mov, [.t 9], none⟩]) <|
  .ret
def f229 : AFunc := ⟨10, f229b, [.tmp 4]⟩
/- 243 sluiceway/sluicewayref07.Text -/
def f243b : ACode :=
  .seq (.ops [
    ⟨some 1, .box .reg, [.t 0], none⟩,
    ⟨some 2, .pur .mov, [.k (.s ⟨#[]⟩)], none⟩]) <|
  .seq (.seq (.ops [
    ⟨some 4, .ld (some 1) 3 true, [.t 1], none⟩,
    ⟨some 5, .call 314, [.t 4, .k (.i (61))], none⟩,
    ⟨some 6, .pur (.bin .gtr), [.t 5, .k (.i (60))], none⟩]) <|
  .cond (.t 6) (.seq (.ops [
      ⟨some 2, .pur .mov, [.k (.s ⟨#[]⟩)], none⟩]) <|
    .ret) (.skip)) <|
  .seq (.ops [
    ⟨some 7, .ld (some 1) 3 true, [.t 1], none⟩,
    ⟨some 8, .call 346, [.t 7], none⟩,
    ⟨some 3, .pur .mov, [.t 8], none⟩]) <|
  .seq (.seq (.ops [
    ⟨some 9, .pur .mov, [.t 3], none⟩,
    ⟨some 10, .pur (.un .not), [.t 9], none⟩]) <|
  .cond (.t 10) (.seq (.ops [
      ⟨some 2, .pur .mov, [.k (.s ⟨#[]⟩)], none⟩]) <|
    .ret) (.skip)) <|
  .seq (.ops [
    ⟨some 11, .ld (some 1) 3 true, [.t 1], none⟩,
    ⟨some 12, .call 347, [.t 11], none⟩,
    ⟨some 2, .pur .mov, [.t 12], none⟩]) <|
  .ret
def f243 : AFunc := ⟨13, f243b, [.tmp 2]⟩
/- 249 sluiceway/sluicewayref04.Number -/
def f249_l0 : ACode :=
  .seq (.seq (.ops [
    ⟨some 5, .pur .mov, [.t 4], none⟩,
    ⟨some 6, .pur (.bin .lss), [.t 5, .k (.i (20))], none⟩,
    ⟨some 7, .pur .mov, [.t 6], none⟩,
    ⟨some 8, .pur .mov, [.t 4], some (7, true)⟩,
    ⟨some 9, .pur (.bin .eql), [.t 8, .k (.i (0))], some (7, true)⟩,
    ⟨some 10, .pur .mov, [.t 9], some (7, true)⟩,
    ⟨some 11, .pur .mov, [.t 0], some (10, false)⟩,
    ⟨some 12, .pur (.bin .gtr), [.t 11, .k (.i (0))], some (10, false)⟩,
    ⟨some 13, .pur .pick, [.t 10, .k (.b true), .t 12], some (7, true)⟩,
    ⟨some 14, .pur .pick, [.t 7, .t 13, .k (.b false)], none⟩]) <|
  .cond (.t 14) (.skip) (.exit 0)) <|
  .seq (.block 1 (.seq (.ops [
      ⟨some 17, .pur .mov, [.t 0], none⟩,
      ⟨some 18, .pur (.bin .rem), [.t 17, .k (.i (10))], none⟩,
      ⟨some 19, .pur (.bin .add), [.k (.i (48)), .t 18], none⟩,
      ⟨some 20, .pur (.toInt .u8), [.t 19], none⟩,
      ⟨some 21, .pur (.buildSl 1 1 [.sc (.int .u8 (0))] [0]), [.t 20], none⟩,
      ⟨some 22, .pur .bytesStr, [.t 21], none⟩,
      ⟨some 23, .pur .mov, [.t 3], none⟩,
      ⟨some 24, .pur (.bin .add), [.t 22, .t 23], none⟩,
      ⟨some 3, .pur .mov, [.t 24], none⟩]) <|
    .ops [
      ⟨some 25, .pur .mov, [.t 0], none⟩,
      ⟨some 26, .pur (.bin .quo), [.t 25, .k (.i (10))], none⟩,
      ⟨some 0, .pur .mov, [.t 26], none⟩])) <|
  .ops [
    ⟨some 15, .pur .mov, [.t 4], none⟩,
    ⟨some 16, .pur (.bin .add), [.t 15, .k (.i (1))], none⟩,
    ⟨some 4, .pur .mov, [.t 16], none⟩]
def f249b : ACode :=
  .seq (.ops [
    ⟨some 2, .pur .mov, [.k (.s ⟨#[]⟩)], none⟩]) <|
  .seq (.ops [
    ⟨some 3, .pur .mov, [.k (.s ⟨#[]⟩)], none⟩]) <|
  .seq (.seq (.ops [
    ⟨some 4, .pur .mov, [.k (.i (0))], none⟩]) <|
  .block 0 (.loop [5, 6, 7, 8, 9, 10, 11, 12, 13, 14, 15, 16, 17, 18, 19, 20, 21, 22, 23, 24, 25, 26] [] f249_l0)) <|
  .seq (.ops [
    ⟨some 27, .pur .mov, [.t 3], none⟩,
    ⟨some 2, .pur .mov, [.t 27], none⟩]) <|
  .ret
def f249 : AFunc := ⟨28, f249b, [.tmp 2]⟩
/- 304 slices.Grow[[]sluiceway/api.Term,sluiceway/api.Term] -/
def f304b : ACode :=
  .seq (.ops [
    ⟨some 4, .pur .mov, [.k (.lst 0 true [])], none⟩]) <|
  .seq (.seq (.ops [
    ⟨some 5, .pur .mov, [.t 1], none⟩,
    ⟨some 6, .pur (.bin .lss), [.t 5, .k (.i (0))], none⟩]) <|
  .cond (.t 6) (.ops [
      ⟨some 7, .bad, [], none⟩,
      ⟨none, .bad, [], none⟩]) (.skip)) <|
  .seq (.seq (.ops [
    ⟨some 8, .pur .mov, [.t 1], none⟩,
    ⟨some 9, .pur .mov, [.t 0], none⟩,
    ⟨some 10, .pur .cap, [.t 9], none⟩,
    ⟨some 11, .pur .mov, [.t 0], none⟩,
    ⟨some 12, .pur .lenL, [.t 11], none⟩,
    ⟨some 13, .pur (.bin .sub), [.t 10, .t 12], none⟩,
    ⟨some 14, .pur (.bin .sub), [.t 8, .t 13], none⟩,
    ⟨some 1, .pur .mov, [.t 14], none⟩]) <|
  .seq (.ops [
    ⟨some 15, .pur .mov, [.t 1], none⟩,
    ⟨some 16, .pur (.bin .gtr), [.t 15, .k (.i (0))], none⟩]) <|
  .cond (.t 16) (.ops [
      ⟨some 17, .pur .mov, [.t 0], none⟩,
      ⟨some 18, .pur .mov, [.t 0], none⟩,
      ⟨some 19, .pur .cap, [.t 18], none⟩,
      ⟨some 20, .pur (.sliceL 3 false true false), [.t 17, .t 19], none⟩,
      ⟨some 21, .pur .mov, [.t 1], none⟩,
      ⟨some 22, .appendZ 3 48 [.i (0), .s ⟨#[]⟩, .lst 0 true []], [.t 20, .t 21], none⟩,
      ⟨some 23, .pur .mov, [.t 0], none⟩,
      ⟨some 24, .pur .lenL, [.t 23], none⟩,
      ⟨some 25, .pur (.sliceL 3 false true false), [.t 22, .t 24], none⟩,
      ⟨some 0, .pur .mov, [.t 25], none⟩]) (.skip)) <|
  .seq (.ops [
    ⟨some 26, .pur .mov, [.t 0], none⟩,
    ⟨some 4, .pur .mov, [.t 26], none⟩]) <|
  .ret
def f304 : AFunc := ⟨27, f304b, [.tmp 4]⟩
/- 306 internal/stringslite.CutPrefix -/
def f306b : ACode :=
  .seq (.ops [
    ⟨some 4, .pur .mov, [.k (.s ⟨#[]⟩)], none⟩,
    ⟨some 5, .pur .mov, [.k (.b false)], none⟩]) <|
  .seq (.seq (.ops [
    ⟨some 6, .pur .mov, [.t 0], none⟩,
    ⟨some 7, .pur .mov, [.t 1], none⟩,
    ⟨some 8, .call 398, [.t 6, .t 7], none⟩,
    ⟨some 9, .pur (.un .not), [.t 8], none⟩]) <|
  .cond (.t 9) (.seq (.ops [
      ⟨some 10, .pur .mov, [.t 0], none⟩,
      ⟨some 4, .pur .mov, [.t 10], none⟩,
      ⟨some 5, .pur .mov, [.k (.b false)], none⟩]) <|
    .ret) (.skip)) <|
  .seq (.ops [
    ⟨some 11, .pur .mov, [.t 0], none⟩,
    ⟨some 12, .pur .mov, [.t 1], none⟩,
    ⟨some 13, .pur .lenS, [.t 12], none⟩,
    ⟨some 14, .pur (.sliceS true false), [.t 11, .t 13], none⟩,
    ⟨some 4, .pur .mov, [.t 14], none⟩,
    ⟨some 5, .pur .mov, [.k (.b true)], none⟩]) <|
  .ret
def f306 : AFunc := ⟨15, f306b, [.tmp 4, .tmp 5]⟩
/- 314 sluiceway/sluicewayref07.Deep -/
def f314_l0 : ACode :=
  .seq (.seq (.ops [
    ⟨some 11, .pur .mov, [.t 6], none⟩,
    ⟨some 12, .pur (.faddr 2), [.t 2], none⟩,
    ⟨some 13, .ld (some 2) 1 false, [.t 12], none⟩,
    ⟨some 14, .pur .lenL, [.t 13], none⟩,
    ⟨some 15, .pur (.bin .lss), [.t 11, .t 14], none⟩]) <|
  .cond (.t 15) (.skip) (.exit 0)) <|
  .seq (.block 1 (.seq (.ops [
      ⟨some 18, .pur (.faddr 2), [.t 2], none⟩,
      ⟨some 19, .ld (some 2) 1 false, [.t 18], none⟩,
      ⟨some 20, .pur .mov, [.t 6], none⟩,
      ⟨some 21, .pur (.iaddr 3), [.t 19, .t 20], none⟩,
      ⟨some 22, .ld none 3 true, [.t 21], none⟩,
      ⟨some 23, .pur .mov, [.t 1], none⟩,
      ⟨some 24, .pur (.bin .sub), [.t 23, .k (.i (1))], none⟩,
      ⟨some 25, .call 314, [.t 22, .t 24], none⟩,
      ⟨some 7, .pur .mov, [.t 25], none⟩]) <|
    .ops [
      ⟨some 26, .pur .mov, [.t 5], none⟩,
      ⟨some 27, .pur .mov, [.t 7], none⟩,
      ⟨some 28, .pur .max, [.t 26, .t 27], none⟩,
      ⟨some 5, .pur .mov, [.t 28], none⟩])) <|
  .ops [
    ⟨some 16, .pur .mov, [.t 6], none⟩,
    ⟨some 17, .pur (.bin .add), [.t 16, .k (.i (1))], none⟩,
    ⟨some 6, .pur .mov, [.t 17], none⟩]
def f314b : ACode :=
  .seq (.ops [
    ⟨some 2, .box .reg, [.t 0], none⟩,
    ⟨some 4, .pur .mov, [.k (.i (0))], none⟩]) <|
  .seq (.seq (.ops [
    ⟨some 8, .pur .mov, [.t 1], none⟩,
    ⟨some 9, .pur (.bin .leq), [.t 8, .k (.i (1))], none⟩]) <|
  .cond (.t 9) (.seq (.ops [
      ⟨some 10, .pur .mov, [.t 1], none⟩,
      ⟨some 4, .pur .mov, [.t 10], none⟩]) <|
    .ret) (.skip)) <|
  .seq (.ops [
    ⟨some 5, .pur .mov, [.k (.i (0))], none⟩]) <|
  .seq (.seq (.ops [
    ⟨some 6, .pur .mov, [.k (.i (0))], none⟩]) <|
  .block 0 (.loop [7, 11, 12, 13, 14, 15, 16, 17, 18, 19, 20, 21, 22, 23, 24, 25, 26, 27, 28] [] f314_l0)) <|
  .seq (.ops [
    ⟨some 29, .pur .mov, [.t 5], none⟩,
    ⟨some 30, .pur (.bin .add), [.t 29, .k (.i (1))], none⟩,
    ⟨some 4, .pur .mov, [.t 30], none⟩]) <|
  .ret
def f314 : AFunc := ⟨31, f314b, [.tmp 4]⟩
/- 315 (sluiceway/cookie.body).text -/
def f315b : ACode :=
  .seq (.ops [
    ⟨some 3, .box .reg, [.t 0], none⟩,
    ⟨some 6, .pur .mov, [.k (.s ⟨#[]⟩)], none⟩]) <|
  .seq (.ops [
    ⟨some 10, .pur (.faddr 0), [.t 3], none⟩,
    ⟨some 11, .pur (.faddr 2), [.t 10], none⟩,
    ⟨some 12, .ld (some 3) 1 false, [.t 11], none⟩,
    ⟨some 13, .pur .mov, [.t 1], none⟩,
    ⟨some 14, .pur (.iaddr 3), [.t 12, .t 13], none⟩,
    ⟨some 15, .pur (.faddr 1), [.t 14], none⟩,
    ⟨some 16, .ld none 1 false, [.t 15], none⟩,
    ⟨some 17, .pur .mov, [.t 2], none⟩,
    ⟨some 18, .call 195, [.t 16, .t 17], none⟩,
    ⟨some 9, .pur .mov, [.t 18], none⟩,
    ⟨some 19, .pur (.extract 0), [.t 9], none⟩,
    ⟨some 20, .pur (.extract 1), [.t 9], none⟩,
    ⟨some 7, .pur .mov, [.t 19], none⟩,
    ⟨some 8, .pur .mov, [.t 20], none⟩]) <|
  .seq (.ops [
    ⟨some 21, .pur .mov, [.t 7], none⟩,
    ⟨some 6, .pur .mov, [.t 21], none⟩]) <|
  .ret
def f315 : AFunc := ⟨22, f315b, [.tmp 6]⟩
/- 316 sluiceway/sluicewayref07.ordered -/
def f316_l0 : ACode :=
  .seq (.seq (.ops [
    ⟨some 5, .pur .mov, [.t 3], none⟩,
    ⟨some 6, .pur (.faddr 2), [.t 1], none⟩,
    ⟨some 7, .ld (some 1) 1 false, [.t 6], none⟩,
    ⟨some 8, .pur .lenL, [.t 7], none⟩,
    ⟨some 9, .pur (.bin .lss), [.t 5, .t 8], none⟩]) <|
  .cond (.t 9) (.skip) (.exit 0)) <|
  .seq (.block 1 (.seq (.ops [
      ⟨some 12, .pur (.faddr 2), [.t 1], none⟩,
      ⟨some 13, .ld (some 1) 1 false, [.t 12], none⟩,
      ⟨some 14, .pur .mov, [.t 3], none⟩,
      ⟨some 15, .pur (.iaddr 3), [.t 13, .t 14], none⟩,
      ⟨some 16, .ld none 3 true, [.t 15], none⟩,
      ⟨some 17, .call 316, [.t 16], none⟩,
      ⟨some 4, .pur .mov, [.t 17], none⟩]) <|
    .seq (.ops [
      ⟨some 18, .pur .mov, [.t 4], none⟩,
      ⟨some 19, .pur (.un .not), [.t 18], none⟩]) <|
    .cond (.t 19) (.seq (.ops [
        ⟨some 2, .pur .mov, [.k (.b false)], none⟩]) <|
      .ret) (.skip))) <|
  .ops [
    ⟨some 10, .pur .mov, [.t 3], none⟩,
    ⟨some 11, .pur (.bin .add), [.t 10, .k (.i (1))], none⟩,
    ⟨some 3, .pur .mov, [.t 11], none⟩]
def f316b : ACode :=
  .seq (.ops [
    ⟨some 1, .box .reg, [.t 0], none⟩,
    ⟨some 2, .pur .mov, [.k (.b false)], none⟩]) <|
  .seq (.seq (.ops [
    ⟨some 3, .pur .mov, [.k (.i (0))], none⟩]) <|
  .block 0 (.loop [2, 4, 5, 6, 7, 8, 9, 10, 11, 12, 13, 14, 15, 16, 17, 18, 19] [] f316_l0)) <|
  .seq (.ops [
    ⟨some 20, .pur (.faddr 0), [.t 1], none⟩,
    ⟨some 21, .ld (some 1) 1 false, [.t 20], none⟩,
    ⟨some 22, .pur (.bin .neq), [.t 21, .k (.i (9))], none⟩,
    ⟨some 23, .pur .mov, [.t 22], none⟩,
    ⟨some 24, .pur (.faddr 2), [.t 1], some (23, false)⟩,
    ⟨some 25, .ld (some 1) 1 false, [.t 24], some (23, false)⟩,
    ⟨some 26, .pur (.iaddr 3), [.t 25, .k (.i (0))], some (23, false)⟩,
    ⟨some 27, .ld none 3 true, [.t 26], some (23, false)⟩,
    ⟨some 28, .call 243, [.t 27], some (23, false)⟩,
    ⟨some 29, .pur (.faddr 2), [.t 1], some (23, false)⟩,
    ⟨some 30, .ld (some 1) 1 false, [.t 29], some (23, false)⟩,
    ⟨some 31, .pur (.iaddr 3), [.t 30, .k (.i (1))], some (23, false)⟩,
    ⟨some 32, .ld none 3 true, [.t 31], some (23, false)⟩,
    ⟨some 33, .call 243, [.t 32], some (23, false)⟩,
    ⟨some 34, .pur (.bin .leq), [.t 28, .t 33], some (23, false)⟩,
    ⟨some 35, .pur .pick, [.t 23, .k (.b true), .t 34], none⟩,
    ⟨some 2, .pur .mov, [.t 35], none⟩]) <|
  .ret
def f316 : AFunc := ⟨36, f316b, [.tmp 2]⟩
/- 317 sluiceway/sluicewayref14.rest -/
def f317b : ACode :=
  .seq (.ops [
    ⟨some 2, .box .reg, [.t 0], none⟩,
    ⟨some 4, .pur .mov, [.k (.s ⟨#[]⟩)], none⟩,
    ⟨some 5, .pur .mov, [.k (.b false)], none⟩]) <|
  .seq (.seq (.ops [
    ⟨some 6, .pur (.faddr 0), [.t 2], none⟩,
    ⟨some 7, .ld (some 2) 1 false, [.t 6], none⟩,
    ⟨some 8, .pur (.bin .neq), [.t 7, .k (.i (1))], none⟩,
    ⟨some 9, .pur .mov, [.t 8], none⟩,
    ⟨some 10, .pur (.faddr 1), [.t 2], some (9, false)⟩,
    ⟨some 11, .ld (some 2) 1 false, [.t 10], some (9, false)⟩,
    ⟨some 12, .pur .lenS, [.t 11], some (9, false)⟩,
    ⟨some 13, .pur (.bin .lss), [.t 12, .k (.i (1))], some (9, false)⟩,
    ⟨some 14, .pur .pick, [.t 9, .k (.b true), .t 13], none⟩,
    ⟨some 15, .pur .mov, [.t 14], none⟩,
    ⟨some 16, .pur (.faddr 1), [.t 2], some (15, false)⟩,
    ⟨some 17, .ld (some 2) 1 false, [.t 16], some (15, false)⟩,
    ⟨some 18, .pur (.sliceS false true), [.t 17, .k (.i (1))], some (15, false)⟩,
    ⟨some 19, .pur .mov, [.t 1], some (15, false)⟩,
    ⟨some 20, .pur (.bin .neq), [.t 18, .t 19], some (15, false)⟩,
    ⟨some 21, .pur .pick, [.t 15, .k (.b true), .t 20], none⟩]) <|
  .cond (.t 21) (.seq (.ops [
      ⟨some 4, .pur .mov, [.k (.s ⟨#[]⟩)], none⟩,
      ⟨some 5, .pur .mov, [.k (.b false)], none⟩]) <|
    .ret) (.skip)) <|
  .seq (.ops [
    ⟨some 22, .pur (.faddr 1), [.t 2], none⟩,
    ⟨some 23, .ld (some 2) 1 false, [.t 22], none⟩,
    ⟨some 24, .pur (.sliceS true false), [.t 23, .k (.i (1))], none⟩,
    ⟨some 4, .pur .mov, [.t 24], none⟩,
    ⟨some 5, .pur .mov, [.k (.b true)], none⟩]) <|
  .ret
def f317 : AFunc := ⟨25, f317b, [.tmp 4, .tmp 5]⟩
/- 318 sluiceway/sluicewayref14.number -/
def f318_l0 : ACode :=
  .seq (.seq (.ops [
    ⟨some 18, .pur .mov, [.t 7], none⟩,
    ⟨some 19, .pur .mov, [.t 0], none⟩,
    ⟨some 20, .pur .lenS, [.t 19], none⟩,
    ⟨some 21, .pur (.bin .lss), [.t 18, .t 20], none⟩]) <|
  .cond (.t 21) (.skip) (.exit 0)) <|
  .seq (.block 1 (.ops [
      ⟨some 24, .pur .mov, [.t 6], none⟩,
      ⟨some 25, .pur (.bin .mul), [.t 24, .k (.i (10))], none⟩,
      ⟨some 26, .pur .mov, [.t 0], none⟩,
      ⟨some 27, .pur .mov, [.t 7], none⟩,
      ⟨some 28, .pur .indexS, [.t 26, .t 27], none⟩,
      ⟨some 29, .pur (.bin .sub), [.t 28, .k (.sc (.int .u8 (48)))], none⟩,
      ⟨some 30, .pur (.toInt .i64), [.t 29], none⟩,
      ⟨some 31, .pur (.bin .sub), [.t 25, .t 30], none⟩,
      ⟨some 6, .pur .mov, [.t 31], none⟩])) <|
  .ops [
    ⟨some 22, .pur .mov, [.t 7], none⟩,
    ⟨some 23, .pur (.bin .add), [.t 22, .k (.i (1))], none⟩,
    ⟨some 7, .pur .mov, [.t 23], none⟩]
def f318b : ACode :=
  .seq (.ops [
    ⟨some 2, .pur .mov, [.k (.i (0))], none⟩,
    ⟨some 3, .pur .mov, [.k (.b false)], none⟩]) <|
  .seq (.ops [
    ⟨some 8, .pur .mov, [.t 0], none⟩,
    ⟨some 9, .pur .lenS, [.t 8], none⟩,
    ⟨some 10, .pur (.bin .gtr), [.t 9, .k (.i (1))], none⟩,
    ⟨some 11, .pur .mov, [.t 10], none⟩,
    ⟨some 12, .pur .mov, [.t 0], some (11, true)⟩,
    ⟨some 13, .pur .indexS, [.t 12, .k (.i (0))], some (11, true)⟩,
    ⟨some 14, .pur (.bin .eql), [.t 13, .k (.sc (.int .u8 (45)))], some (11, true)⟩,
    ⟨some 15, .pur .pick, [.t 11, .t 14, .k (.b false)], none⟩,
    ⟨some 4, .pur .mov, [.t 15], none⟩]) <|
  .seq (.ops [
    ⟨some 5, .pur .mov, [.k (.i (0))], none⟩]) <|
  .seq (.seq (.ops [
    ⟨some 16, .pur .mov, [.t 4], none⟩]) <|
  .cond (.t 16) (.ops [
      ⟨some 5, .pur .mov, [.k (.i (1))], none⟩]) (.skip)) <|
  .seq (.ops [
    ⟨some 6, .pur .mov, [.k (.i (0))], none⟩]) <|
  .seq (.seq (.ops [
    ⟨some 17, .pur .mov, [.t 5], none⟩,
    ⟨some 7, .pur .mov, [.t 17], none⟩]) <|
  .block 0 (.loop [18, 19, 20, 21, 22, 23, 24, 25, 26, 27, 28, 29, 30, 31] [] f318_l0)) <|
  .seq (.seq (.ops [
    ⟨some 32, .pur .mov, [.t 4], none⟩,
    ⟨some 33, .pur (.un .not), [.t 32], none⟩]) <|
  .cond (.t 33) (.ops [
      ⟨some 34, .pur .mov, [.t 6], none⟩,
      ⟨some 35, .pur (.un .neg), [.t 34], none⟩,
      ⟨some 6, .pur .mov, [.t 35], none⟩]) (.skip)) <|
  .seq (.ops [
    ⟨some 36, .pur .mov, [.t 6], none⟩,
    ⟨some 37, .pur .mov, [.t 6], none⟩,
    ⟨some 38, .call 213, [.t 37], none⟩,
    ⟨some 39, .pur .mov, [.t 0], none⟩,
    ⟨some 40, .pur (.bin .eql), [.t 38, .t 39], none⟩,
    ⟨some 2, .pur .mov, [.t 36], none⟩,
    ⟨some 3, .pur .mov, [.t 40], none⟩]) <|
  .ret
def f318 : AFunc := ⟨41, f318b, [.tmp 2, .tmp 3]⟩
/- 319 sluiceway/term.known -/
def f319b : ACode :=
  .seq (.ops [
    ⟨some 1, .box .reg, [.t 0], none⟩,
    ⟨some 2, .pur .mov, [.k (.b false)], none⟩]) <|
  .seq (.ops [
    ⟨some 3, .pur (.faddr 0), [.t 1], none⟩,
    ⟨some 4, .ld (some 1) 1 false, [.t 3], none⟩,
    ⟨some 5, .pur (.bin .geq), [.t 4, .k (.i (1))], none⟩,
    ⟨some 6, .pur .mov, [.t 5], none⟩,
    ⟨some 7, .pur (.faddr 0), [.t 1], some (6, true)⟩,
    ⟨some 8, .ld (some 1) 1 false, [.t 7], some (6, true)⟩,
    ⟨some 9, .pur (.bin .leq), [.t 8, .k (.i (10))], some (6, true)⟩,
    ⟨some 10, .pur .pick, [.t 6, .t 9, .k (.b false)], none⟩,
    ⟨some 2, .pur .mov, [.t 10], none⟩]) <|
  .ret
def f319 : AFunc := ⟨11, f319b, [.tmp 2]⟩
/- 320 slices.ContainsFunc[[]sluiceway/api.Term,sluiceway/api.Term] -/
def f320b : ACode :=
  .seq (.ops [
    ⟨some 4, .pur .mov, [.k (.b false)], none⟩]) <|
  .seq (.ops [
    ⟨some 5, .pur .mov, [.t 0], none⟩,
    ⟨some 6, .pur .mov, [.t 1], none⟩,
    ⟨some 7, .call 408, [.t 5, .t 6], none⟩,
    ⟨some 8, .pur (.bin .geq), [.t 7, .k (.i (0))], none⟩,
    ⟨some 4, .pur .mov, [.t 8], none⟩]) <|
  .ret
def f320 : AFunc := ⟨9, f320b, [.tmp 4]⟩
/- 321 sluiceway/term.shape$1 -/
def f321b : ACode :=
  .seq (.ops [
    ⟨some 2, .box .reg, [.t 0], none⟩,
    ⟨some 3, .pur .mov, [.k (.b false)], none⟩]) <|
  .seq (.ops [
    ⟨some 4, .ld (some 2) 3 true, [.t 2], none⟩,
    ⟨some 5, .ld none 1 false, [.t 1], none⟩,
    ⟨some 6, .pur (.bin .sub), [.t 5, .k (.i (1))], none⟩,
    ⟨some 7, .call 221, [.t 4, .t 6], none⟩,
    ⟨some 8, .pur (.un .not), [.t 7], none⟩,
    ⟨some 3, .pur .mov, [.t 8], none⟩]) <|
  .ret
def f321 : AFunc := ⟨9, f321b, [.tmp 3]⟩
/- 322 sluiceway/term.ordered$1 -/
def f322b : ACode :=
  .seq (.ops [
    ⟨some 1, .box .reg, [.t 0], none⟩,
    ⟨some 2, .pur .mov, [.k (.b false)], none⟩]) <|
  .seq (.ops [
    ⟨some 3, .ld (some 1) 3 true, [.t 1], none⟩,
    ⟨some 4, .call 222, [.t 3], none⟩,
    ⟨some 5, .pur (.un .not), [.t 4], none⟩,
    ⟨some 2, .pur .mov, [.t 5], none⟩]) <|
  .ret
def f322 : AFunc := ⟨6, f322b, [.tmp 2]⟩
/- 346 sluiceway/sluicewayref07.shape -/
def f346_l0 : ACode :=
  .seq (.seq (.ops [
    ⟨some 43, .pur .mov, [.t 5], none⟩,
    ⟨some 44, .pur (.faddr 2), [.t 1], none⟩,
    ⟨some 45, .ld (some 1) 1 false, [.t 44], none⟩,
    ⟨some 46, .pur .lenL, [.t 45], none⟩,
    ⟨some 47, .pur (.bin .lss), [.t 43, .t 46], none⟩]) <|
  .cond (.t 47) (.skip) (.exit 0)) <|
  .seq (.block 1 (.seq (.ops [
      ⟨some 50, .pur (.faddr 2), [.t 1], none⟩,
      ⟨some 51, .ld (some 1) 1 false, [.t 50], none⟩,
      ⟨some 52, .pur .mov, [.t 5], none⟩,
      ⟨some 53, .pur (.iaddr 3), [.t 51, .t 52], none⟩,
      ⟨some 54, .ld none 3 true, [.t 53], none⟩,
      ⟨some 55, .call 346, [.t 54], none⟩,
      ⟨some 6, .pur .mov, [.t 55], none⟩]) <|
    .seq (.ops [
      ⟨some 56, .pur .mov, [.t 6], none⟩,
      ⟨some 57, .pur (.un .not), [.t 56], none⟩]) <|
    .cond (.t 57) (.seq (.ops [
        ⟨some 2, .pur .mov, [.k (.b false)], none⟩]) <|
      .ret) (.skip))) <|
  .ops [
    ⟨some 48, .pur .mov, [.t 5], none⟩,
    ⟨some 49, .pur (.bin .add), [.t 48, .k (.i (1))], none⟩,
    ⟨some 5, .pur .mov, [.t 49], none⟩]
def f346b : ACode :=
  .seq (.ops [
    ⟨some 1, .box .reg, [.t 0], none⟩,
    ⟨some 2, .pur .mov, [.k (.b false)], none⟩]) <|
  .seq (.ops [
    ⟨some 7, .pur (.faddr 0), [.t 1], none⟩,
    ⟨some 8, .ld (some 1) 1 false, [.t 7], none⟩,
    ⟨some 9, .call 419, [.t 8], none⟩,
    ⟨some 3, .pur .mov, [.t 9], none⟩]) <|
  .seq (.ops [
    ⟨some 10, .pur (.faddr 0), [.t 1], none⟩,
    ⟨some 11, .ld (some 1) 1 false, [.t 10], none⟩,
    ⟨some 12, .pur (.bin .eql), [.t 11, .k (.i (1))], none⟩,
    ⟨some 13, .pur .mov, [.t 12], none⟩,
    ⟨some 14, .pur (.faddr 0), [.t 1], some (13, false)⟩,
    ⟨some 15, .ld (some 1) 1 false, [.t 14], some (13, false)⟩,
    ⟨some 16, .pur (.bin .eql), [.t 15, .k (.i (2))], some (13, false)⟩,
    ⟨some 17, .pur .pick, [.t 13, .k (.b true), .t 16], none⟩,
    ⟨some 18, .pur .mov, [.t 17], none⟩,
    ⟨some 19, .pur (.faddr 0), [.t 1], some (18, false)⟩,
    ⟨some 20, .ld (some 1) 1 false, [.t 19], some (18, false)⟩,
    ⟨some 21, .pur (.bin .eql), [.t 20, .k (.i (7))], some (18, false)⟩,
    ⟨some 22, .pur .pick, [.t 18, .k (.b true), .t 21], none⟩,
    ⟨some 4, .pur .mov, [.t 22], none⟩]) <|
  .seq (.seq (.ops [
    ⟨some 23, .pur .mov, [.t 3], none⟩,
    ⟨some 24, .pur (.bin .eql), [.t 23, .k (.i (-2))], none⟩,
    ⟨some 25, .pur .mov, [.t 24], none⟩,
    ⟨some 26, .pur .mov, [.t 3], some (25, false)⟩,
    ⟨some 27, .pur (.bin .geq), [.t 26, .k (.i (0))], some (25, false)⟩,
    ⟨some 28, .pur .mov, [.t 27], some (25, false)⟩,
    ⟨some 29, .pur (.faddr 2), [.t 1], some (28, true)⟩,
    ⟨some 30, .ld (some 1) 1 false, [.t 29], some (28, true)⟩,
    ⟨some 31, .pur .lenL, [.t 30], some (28, true)⟩,
    ⟨some 32, .pur .mov, [.t 3], some (28, true)⟩,
    ⟨some 33, .pur (.bin .neq), [.t 31, .t 32], some (28, true)⟩,
    ⟨some 34, .pur .pick, [.t 28, .t 33, .k (.b false)], some (25, false)⟩,
    ⟨some 35, .pur .pick, [.t 25, .k (.b true), .t 34], none⟩,
    ⟨some 36, .pur .mov, [.t 35], none⟩,
    ⟨some 37, .pur .mov, [.t 4], some (36, false)⟩,
    ⟨some 38, .pur (.faddr 1), [.t 1], some (36, false)⟩,
    ⟨some 39, .ld (some 1) 1 false, [.t 38], some (36, false)⟩,
    ⟨some 40, .pur (.bin .neq), [.t 39, .k (.s ⟨#[]⟩)], some (36, false)⟩,
    ⟨some 41, .pur (.eqB true), [.t 37, .t 40], some (36, false)⟩,
    ⟨some 42, .pur .pick, [.t 36, .k (.b true), .t 41], none⟩]) <|
  .cond (.t 42) (.seq (.ops [
      ⟨some 2, .pur .mov, [.k (.b false)], none⟩]) <|
    .ret) (.skip)) <|
  .seq (.seq (.ops [
    ⟨some 5, .pur .mov, [.k (.i (0))], none⟩]) <|
  .block 0 (.loop [2, 6, 43, 44, 45, 46, 47, 48, 49, 50, 51, 52, 53, 54, 55, 56, 57] [] f346_l0)) <|
  .seq (.ops [
    ⟨some 2, .pur .mov, [.k (.b true)], none⟩]) <|
  .ret
def f346 : AFunc := ⟨58, f346b, [.tmp 2]⟩
/- 347 sluiceway/sluicewayref07.text -/
def f347_l0 : ACode :=
  .seq (.seq (.ops [
    ⟨some 33, .pur .mov, [.t 5], none⟩,
    ⟨some 34, .pur (.faddr 2), [.t 1], none⟩,
    ⟨some 35, .ld (some 1) 1 false, [.t 34], none⟩,
    ⟨some 36, .pur .lenL, [.t 35], none⟩,
    ⟨some 37, .pur (.bin .lss), [.t 33, .t 36], none⟩]) <|
  .cond (.t 37) (.skip) (.exit 0)) <|
  .seq (.block 1 (.seq (.seq (.ops [
      ⟨some 40, .pur .mov, [.t 5], none⟩,
      ⟨some 41, .pur (.bin .gtr), [.t 40, .k (.i (0))], none⟩]) <|
    .cond (.t 41) (.ops [
        ⟨some 42, .pur .mov, [.t 4], none⟩,
        ⟨some 43, .pur (.bin .add), [.t 42, .k (.s ⟨#[44]⟩)], none⟩,
        ⟨some 4, .pur .mov, [.t 43], none⟩]) (.skip)) <|
    .seq (.ops [
      ⟨some 44, .pur (.faddr 2), [.t 1], none⟩,
      ⟨some 45, .ld (some 1) 1 false, [.t 44], none⟩,
      ⟨some 46, .pur .mov, [.t 5], none⟩,
      ⟨some 47, .pur (.iaddr 3), [.t 45, .t 46], none⟩,
      ⟨some 48, .ld none 3 true, [.t 47], none⟩,
      ⟨some 49, .call 347, [.t 48], none⟩,
      ⟨some 6, .pur .mov, [.t 49], none⟩]) <|
    .ops [
      ⟨some 50, .pur .mov, [.t 4], none⟩,
      ⟨some 51, .pur .mov, [.t 6], none⟩,
      ⟨some 52, .pur (.bin .add), [.t 50, .t 51], none⟩,
      ⟨some 4, .pur .mov, [.t 52], none⟩])) <|
  .ops [
    ⟨some 38, .pur .mov, [.t 5], none⟩,
    ⟨some 39, .pur (.bin .add), [.t 38, .k (.i (1))], none⟩,
    ⟨some 5, .pur .mov, [.t 39], none⟩]
def f347b : ACode :=
  .seq (.ops [
    ⟨some 1, .box .reg, [.t 0], none⟩,
    ⟨some 2, .pur .mov, [.k (.s ⟨#[]⟩)], none⟩]) <|
  .seq (.ops [
    ⟨some 7, .pur (.buildSl 1 10 [.s ⟨#[]⟩] [0, 1, 2, 3, 4, 5, 6, 7, 8, 9]), [.k (.s ⟨#[100]⟩), .k (.s ⟨#[97]⟩), .k (.s ⟨#[112]⟩), .k (.s ⟨#[101]⟩), .k (.s ⟨#[109]⟩), .k (.s ⟨#[104]⟩), .k (.s ⟨#[107]⟩), .k (.s ⟨#[117]⟩), .k (.s ⟨#[115]⟩), .k (.s ⟨#[120]⟩)], none⟩,
    ⟨some 3, .pur .mov, [.t 7], none⟩]) <|
  .seq (.ops [
    ⟨some 8, .pur .mov, [.t 3], none⟩,
    ⟨some 9, .pur (.faddr 0), [.t 1], none⟩,
    ⟨some 10, .ld (some 1) 1 false, [.t 9], none⟩,
    ⟨some 11, .pur (.bin .sub), [.t 10, .k (.i (1))], none⟩,
    ⟨some 12, .pur (.iaddr 1), [.t 8, .t 11], none⟩,
    ⟨some 13, .ld none 1 false, [.t 12], none⟩,
    ⟨some 4, .pur .mov, [.t 13], none⟩]) <|
  .seq (.seq (.ops [
    ⟨some 14, .pur (.faddr 1), [.t 1], none⟩,
    ⟨some 15, .ld (some 1) 1 false, [.t 14], none⟩,
    ⟨some 16, .pur (.bin .neq), [.t 15, .k (.s ⟨#[]⟩)], none⟩]) <|
  .cond (.t 16) (.ops [
      ⟨some 17, .pur .mov, [.t 4], none⟩,
      ⟨some 18, .pur (.faddr 1), [.t 1], none⟩,
      ⟨some 19, .ld (some 1) 1 false, [.t 18], none⟩,
      ⟨some 20, .pur .lenS, [.t 19], none⟩,
      ⟨some 21, .call 420, [.t 20], none⟩,
      ⟨some 22, .pur (.bin .add), [.t 17, .t 21], none⟩,
      ⟨some 23, .pur (.bin .add), [.t 22, .k (.s ⟨#[58]⟩)], none⟩,
      ⟨some 24, .pur (.faddr 1), [.t 1], none⟩,
      ⟨some 25, .ld (some 1) 1 false, [.t 24], none⟩,
      ⟨some 26, .pur (.bin .add), [.t 23, .t 25], none⟩,
      ⟨some 4, .pur .mov, [.t 26], none⟩]) (.skip)) <|
  .seq (.seq (.ops [
    ⟨some 27, .pur (.faddr 0), [.t 1], none⟩,
    ⟨some 28, .ld (some 1) 1 false, [.t 27], none⟩,
    ⟨some 29, .pur (.bin .leq), [.t 28, .k (.i (2))], none⟩]) <|
  .cond (.t 29) (.seq (.ops [
      ⟨some 30, .pur .mov, [.t 4], none⟩,
      ⟨some 2, .pur .mov, [.t 30], none⟩]) <|
    .ret) (.skip)) <|
  .seq (.ops [
    ⟨some 31, .pur .mov, [.t 4], none⟩,
    ⟨some 32, .pur (.bin .add), [.t 31, .k (.s ⟨#[40]⟩)], none⟩,
    ⟨some 4, .pur .mov, [.t 32], none⟩]) <|
  .seq (.seq (.ops [
    ⟨some 5, .pur .mov, [.k (.i (0))], none⟩]) <|
  .block 0 (.loop [6, 33, 34, 35, 36, 37, 38, 39, 40, 41, 42, 43, 44, 45, 46, 47, 48, 49, 50, 51, 52] [] f347_l0)) <|
  .seq (.ops [
    ⟨some 53, .pur .mov, [.t 4], none⟩,
    ⟨some 54, .pur (.bin .add), [.t 53, .k (.s ⟨#[41]⟩)], none⟩,
    ⟨some 2, .pur .mov, [.t 54], none⟩]) <|
  .ret
def f347 : AFunc := ⟨55, f347b, [.tmp 2]⟩
/- 398 internal/stringslite.HasPrefix -/
def f398b : ACode :=
  .seq (.ops [
    ⟨some 4, .pur .mov, [.k (.b false)], none⟩]) <|
  .seq (.ops [
    ⟨some 5, .pur .mov, [.t 0], none⟩,
    ⟨some 6, .pur .lenS, [.t 5], none⟩,
    ⟨some 7, .pur .mov, [.t 1], none⟩,
    ⟨some 8, .pur .lenS, [.t 7], none⟩,
    ⟨some 9, .pur (.bin .geq), [.t 6, .t 8], none⟩,
    ⟨some 10, .pur .mov, [.t 9], none⟩,
    ⟨some 11, .pur .mov, [.t 0], some (10, true)⟩,
    ⟨some 12, .pur .mov, [.t 1], some (10, true)⟩,
    ⟨some 13, .pur .lenS, [.t 12], some (10, true)⟩,
    ⟨some 14, .pur (.sliceS false true), [.t 11, .t 13], some (10, true)⟩,
    ⟨some 15, .pur .mov, [.t 1], some (10, true)⟩,
    ⟨some 16, .pur (.bin .eql), [.t 14, .t 15], some (10, true)⟩,
    ⟨some 17, .pur .pick, [.t 10, .t 16, .k (.b false)], none⟩,
    ⟨some 4, .pur .mov, [.t 17], none⟩]) <|
  .ret
def f398 : AFunc := ⟨18, f398b, [.tmp 4]⟩
/- 408 slices.IndexFunc[[]sluiceway/api.Term,sluiceway/api.Term] -/
def f408_l0 : ACode :=
  .seq (.ops [
    ⟨some 9, .pur (.bin .lss), [.t 8, .t 7], none⟩]) <|
  .seq (.cond (.t 9) (.skip) (.exit 0)) <|
  .seq (.block 1 (.seq (.ops [
      ⟨some 10, .pur .mov, [.t 8], none⟩,
      ⟨some 5, .pur .mov, [.t 10], none⟩]) <|
    .seq (.ops [
      ⟨some 11, .pur .mov, [.t 1], none⟩,
      ⟨some 12, .pur .mov, [.t 0], none⟩,
      ⟨some 13, .pur .mov, [.t 5], none⟩,
      ⟨some 14, .pur (.iaddr 3), [.t 12, .t 13], none⟩,
      ⟨some 15, .ld none 3 true, [.t 14], none⟩,
      ⟨some 16, .callv, [.t 11, .t 15], none⟩]) <|
    .cond (.t 16) (.seq (.ops [
        ⟨some 17, .pur .mov, [.t 5], none⟩,
        ⟨some 4, .pur .mov, [.t 17], none⟩]) <|
      .ret) (.skip))) <|
  .ops [
    ⟨some 18, .pur (.bin .add), [.t 8, .k (.i (1))], none⟩,
    ⟨some 8, .pur .mov, [.t 18], none⟩]
def f408b : ACode :=
  .seq (.ops [
    ⟨some 4, .pur .mov, [.k (.i (0))], none⟩]) <|
  .seq (.seq (.ops [
    ⟨some 6, .pur .mov, [.t 0], none⟩,
    ⟨some 7, .pur .lenL, [.t 6], none⟩,
    ⟨some 8, .pur .mov, [.k (.i (0))], none⟩]) <|
  .block 0 (.loop [4, 5, 9, 10, 11, 12, 13, 14, 15, 16, 17, 18] [] f408_l0)) <|
  .seq (.ops [
    ⟨some 4, .pur .mov, [.k (.i (-1))], none⟩]) <|
  .ret
def f408 : AFunc := ⟨19, f408b, [.tmp 4]⟩
/- 419 sluiceway/sluicewayref07.kids -/
def f419b : ACode :=
  .seq (.ops [
    ⟨some 2, .pur .mov, [.k (.i (0))], none⟩]) <|
  .seq (.seq (.ops [
    ⟨some 3, .pur .mov, [.t 0], none⟩]) <|
  .block 0 (.seq (.seq (.ops [
      ⟨some 5, .pur (.bin .eql), [.t 3, .k (.i (1))], none⟩,
      ⟨some 4, .pur .mov, [.t 5], none⟩]) <|
    .cond (.t 4) (.skip) (.ops [
        ⟨some 6, .pur (.bin .eql), [.t 3, .k (.i (2))], none⟩,
        ⟨some 4, .pur .mov, [.t 6], none⟩])) <|
    .cond (.t 4) (.seq (.ops [
        ⟨some 2, .pur .mov, [.k (.i (0))], none⟩]) <|
      .ret) (.seq (.ops [
        ⟨some 8, .pur (.bin .eql), [.t 3, .k (.i (3))], none⟩,
        ⟨some 7, .pur .mov, [.t 8], none⟩]) <|
      .cond (.t 7) (.seq (.ops [
          ⟨some 2, .pur .mov, [.k (.i (-1))], none⟩]) <|
        .ret) (.seq (.seq (.ops [
          ⟨some 10, .pur (.bin .eql), [.t 3, .k (.i (4))], none⟩,
          ⟨some 9, .pur .mov, [.t 10], none⟩]) <|
        .cond (.t 9) (.skip) (.seq (.ops [
            ⟨some 11, .pur (.bin .eql), [.t 3, .k (.i (5))], none⟩,
            ⟨some 9, .pur .mov, [.t 11], none⟩]) <|
          .cond (.t 9) (.skip) (.seq (.ops [
              ⟨some 12, .pur (.bin .eql), [.t 3, .k (.i (9))], none⟩,
              ⟨some 9, .pur .mov, [.t 12], none⟩]) <|
            .cond (.t 9) (.skip) (.ops [
                ⟨some 13, .pur (.bin .eql), [.t 3, .k (.i (10))], none⟩,
                ⟨some 9, .pur .mov, [.t 13], none⟩])))) <|
        .cond (.t 9) (.seq (.ops [
            ⟨some 2, .pur .mov, [.k (.i (2))], none⟩]) <|
          .ret) (.seq (.seq (.ops [
            ⟨some 15, .pur (.bin .eql), [.t 3, .k (.i (6))], none⟩,
            ⟨some 14, .pur .mov, [.t 15], none⟩]) <|
          .cond (.t 14) (.skip) (.seq (.ops [
              ⟨some 16, .pur (.bin .eql), [.t 3, .k (.i (7))], none⟩,
              ⟨some 14, .pur .mov, [.t 16], none⟩]) <|
            .cond (.t 14) (.skip) (.ops [
                ⟨some 17, .pur (.bin .eql), [.t 3, .k (.i (8))], none⟩,
                ⟨some 14, .pur .mov, [.t 17], none⟩]))) <|
          .cond (.t 14) (.seq (.ops [
              ⟨some 2, .pur .mov, [.k (.i (1))], none⟩]) <|
            .ret) (.skip)))))) <|
  .seq (.ops [
    ⟨some 2, .pur .mov, [.k (.i (-2))], none⟩]) <|
  .ret
def f419 : AFunc := ⟨18, f419b, [.tmp 2]⟩
/- 420 sluiceway/sluicewayref07.number -/
def f420b : ACode :=
  .seq (.ops [
    ⟨some 2, .pur .mov, [.k (.s ⟨#[]⟩)], none⟩]) <|
  .seq (.seq (.ops [
    ⟨some 3, .pur .mov, [.t 0], none⟩,
    ⟨some 4, .pur (.bin .lss), [.t 3, .k (.i (10))], none⟩]) <|
  .cond (.t 4) (.seq (.ops [
      ⟨some 5, .pur .mov, [.t 0], none⟩,
      ⟨some 6, .pur (.bin .add), [.k (.i (48)), .t 5], none⟩,
      ⟨some 7, .pur (.toInt .u8), [.t 6], none⟩,
      ⟨some 8, .pur (.buildSl 1 1 [.sc (.int .u8 (0))] [0]), [.t 7], none⟩,
      ⟨some 9, .pur .bytesStr, [.t 8], none⟩,
      ⟨some 2, .pur .mov, [.t 9], none⟩]) <|
    .ret) (.skip)) <|
  .seq (.ops [
    ⟨some 10, .pur .mov, [.t 0], none⟩,
    ⟨some 11, .pur (.bin .quo), [.t 10, .k (.i (10))], none⟩,
    ⟨some 12, .call 420, [.t 11], none⟩,
    ⟨some 13, .pur .mov, [.t 0], none⟩,
    ⟨some 14, .pur (.bin .rem), [.t 13, .k (.i (10))], none⟩,
    ⟨some 15, .pur (.bin .add), [.k (.i (48)), .t 14], none⟩,
    ⟨some 16, .pur (.toInt .u8), [.t 15], none⟩,
    ⟨some 17, .pur (.buildSl 1 1 [.sc (.int .u8 (0))] [0]), [.t 16], none⟩,
    ⟨some 18, .pur .bytesStr, [.t 17], none⟩,
    ⟨some 19, .pur (.bin .add), [.t 12, .t 18], none⟩,
    ⟨some 2, .pur .mov, [.t 19], none⟩]) <|
  .ret
def f420 : AFunc := ⟨20, f420b, [.tmp 2]⟩
end Abs
