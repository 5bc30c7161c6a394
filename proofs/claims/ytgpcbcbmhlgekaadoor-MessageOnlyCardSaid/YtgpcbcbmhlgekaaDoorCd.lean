/- Abstract code of the functions that the Replay laws reach: printed by gen/Gen.lean. -/
import Derived.Test.YtgpcbcbmhlgekaaDoorE3
set_option linter.unusedVariables false
set_option linter.unusedSimpArgs false
set_option linter.unusedSectionVars false
namespace Abs
open Go
/- 3 sluiceway/sluicewaylaw13.ReplayOnce -/
def f3_l0 : ACode :=
  .seq (.seq (.ops [
    ⟨some 58, .pur .mov, [.t 12], none⟩,
    ⟨some 59, .pur .mov, [.t 6], none⟩,
    ⟨some 60, .pur .lenL, [.t 59], none⟩,
    ⟨some 61, .pur (.bin .lss), [.t 58, .t 60], none⟩]) <|
  .cond (.t 61) (.skip) (.exit 2)) <|
  .seq (.block 3 (.seq (.ops [
      ⟨some 64, .pur .mov, [.t 6], none⟩,
      ⟨some 65, .pur .mov, [.t 12], none⟩,
      ⟨some 66, .pur (.iaddr 1), [.t 64, .t 65], none⟩,
      ⟨some 67, .ld none 1 false, [.t 66], none⟩,
      ⟨some 68, .pur .mov, [.t 10], none⟩,
      ⟨some 69, .pur (.bin .eql), [.t 67, .t 68], none⟩,
      ⟨some 70, .pur .mov, [.t 69], none⟩,
      ⟨some 71, .pur .mov, [.t 7], some (70, true)⟩,
      ⟨some 72, .pur .mov, [.t 12], some (70, true)⟩,
      ⟨some 73, .pur (.iaddr 1), [.t 71, .t 72], some (70, true)⟩,
      ⟨some 74, .ld none 1 false, [.t 73], some (70, true)⟩,
      ⟨some 75, .pur .mov, [.t 5], some (70, true)⟩,
      ⟨some 76, .pur (.bin .gtr), [.t 74, .t 75], some (70, true)⟩,
      ⟨some 77, .pur .pick, [.t 70, .t 76, .k (.b false)], none⟩]) <|
    .cond (.t 77) (.seq (.ops [
        ⟨some 11, .pur .mov, [.k (.b true)], none⟩]) <|
      .ops [
        ⟨some 78, .pur .mov, [.t 7], none⟩,
        ⟨some 79, .pur .mov, [.t 12], none⟩,
        ⟨some 80, .pur .mov, [.t 7], none⟩,
        ⟨some 81, .pur .mov, [.t 12], none⟩,
        ⟨some 82, .pur (.iaddr 1), [.t 80, .t 81], none⟩,
        ⟨some 83, .ld none 1 false, [.t 82], none⟩,
        ⟨some 84, .pur .mov, [.t 9], none⟩,
        ⟨some 85, .pur .max, [.t 83, .t 84], none⟩,
        ⟨some 86, .pur (.iaddr 1), [.t 78, .t 79], none⟩,
        ⟨none, .st none 1, [.t 86, .t 85], none⟩]) (.skip))) <|
  .ops [
    ⟨some 62, .pur .mov, [.t 12], none⟩,
    ⟨some 63, .pur (.bin .add), [.t 62, .k (.i (1))], none⟩,
    ⟨some 12, .pur .mov, [.t 63], none⟩]

def f3_l1 : ACode :=
  .seq (.seq (.ops [
    ⟨some 18, .pur .mov, [.t 8], none⟩,
    ⟨some 19, .pur .mov, [.t 0], none⟩,
    ⟨some 20, .pur .lenL, [.t 19], none⟩,
    ⟨some 21, .pur (.bin .lss), [.t 18, .t 20], none⟩,
    ⟨some 22, .pur .mov, [.t 21], none⟩,
    ⟨some 23, .pur .mov, [.t 8], some (22, true)⟩,
    ⟨some 24, .pur (.bin .lss), [.t 23, .k (.i (50))], some (22, true)⟩,
    ⟨some 25, .pur .pick, [.t 22, .t 24, .k (.b false)], none⟩]) <|
  .cond (.t 25) (.skip) (.exit 0)) <|
  .seq (.block 1 (.seq (.ops [
      ⟨some 28, .pur .mov, [.t 5], none⟩,
      ⟨some 29, .pur .mov, [.t 0], none⟩,
      ⟨some 30, .pur .mov, [.t 8], none⟩,
      ⟨some 31, .pur (.iaddr 4), [.t 29, .t 30], none⟩,
      ⟨some 32, .pur (.faddr 2), [.t 31], none⟩,
      ⟨some 33, .ld none 1 false, [.t 32], none⟩,
      ⟨some 34, .pur (.bin .and), [.t 33, .k (.i (15))], none⟩,
      ⟨some 35, .pur (.bin .add), [.t 28, .t 34], none⟩,
      ⟨some 5, .pur .mov, [.t 35], none⟩]) <|
    .seq (.ops [
      ⟨some 36, .pur .mov, [.t 5], none⟩,
      ⟨some 37, .pur (.bin .add), [.t 36, .k (.i (1))], none⟩,
      ⟨some 38, .pur .mov, [.t 0], none⟩,
      ⟨some 39, .pur .mov, [.t 8], none⟩,
      ⟨some 40, .pur (.iaddr 4), [.t 38, .t 39], none⟩,
      ⟨some 41, .pur (.faddr 1), [.t 40], none⟩,
      ⟨some 42, .ld none 1 false, [.t 41], none⟩,
      ⟨some 43, .pur (.bin .and), [.t 42, .k (.i (63))], none⟩,
      ⟨some 44, .pur (.bin .add), [.t 37, .t 43], none⟩,
      ⟨some 9, .pur .mov, [.t 44], none⟩]) <|
    .seq (.ops [
      ⟨some 45, .pur .mov, [.t 0], none⟩,
      ⟨some 46, .pur .mov, [.t 8], none⟩,
      ⟨some 47, .pur (.iaddr 4), [.t 45, .t 46], none⟩,
      ⟨some 48, .pur (.faddr 0), [.t 47], none⟩,
      ⟨some 49, .ld none 1 false, [.t 48], none⟩,
      ⟨some 50, .pur .mov, [.t 0], none⟩,
      ⟨some 51, .pur .mov, [.t 8], none⟩,
      ⟨some 52, .pur (.iaddr 4), [.t 50, .t 51], none⟩,
      ⟨some 53, .pur (.faddr 0), [.t 52], none⟩,
      ⟨some 54, .ld none 1 false, [.t 53], none⟩,
      ⟨some 55, .pur .lenS, [.t 54], none⟩,
      ⟨some 56, .pur .min, [.t 55, .k (.i (20))], none⟩,
      ⟨some 57, .pur (.sliceS false true), [.t 49, .t 56], none⟩,
      ⟨some 10, .pur .mov, [.t 57], none⟩]) <|
    .seq (.ops [
      ⟨some 11, .pur .mov, [.k (.b false)], none⟩]) <|
    .seq (.seq (.ops [
      ⟨some 12, .pur .mov, [.k (.i (0))], none⟩]) <|
    .block 2 (.loop [58, 59, 60, 61, 62, 63, 64, 65, 66, 67, 68, 69, 70, 71, 72, 73, 74, 75, 76, 77, 78, 79, 80, 81, 82, 83, 84, 85, 86] [] f3_l0)) <|
    .seq (.ops [
      ⟨some 13, .pur .mov, [.k (.i (0))], none⟩]) <|
    .seq (.seq (.ops [
      ⟨some 87, .pur .mov, [.t 11], none⟩]) <|
    .cond (.t 87) (.ops [
        ⟨some 13, .pur .mov, [.k (.i (9))], none⟩]) (.seq (.ops [
        ⟨some 88, .pur .mov, [.t 6], none⟩,
        ⟨some 89, .pur .mov, [.t 10], none⟩,
        ⟨some 90, .pur (.buildSl 1 1 [.s ⟨#[]⟩] [0]), [.t 89], none⟩,
        ⟨some 91, .append 1 16, [.t 88, .t 90], none⟩,
        ⟨some 6, .pur .mov, [.t 91], none⟩]) <|
      .ops [
        ⟨some 92, .pur .mov, [.t 7], none⟩,
        ⟨some 93, .pur .mov, [.t 9], none⟩,
        ⟨some 94, .pur (.buildSl 1 1 [.i (0)] [0]), [.t 93], none⟩,
        ⟨some 95, .append 1 8, [.t 92, .t 94], none⟩,
        ⟨some 7, .pur .mov, [.t 95], none⟩])) <|
    .seq (.ops [
      ⟨some 96, .pur .mov, [.t 4], none⟩,
      ⟨some 97, .pur .mov, [.t 10], none⟩,
      ⟨some 98, .pur .mov, [.t 9], none⟩,
      ⟨some 99, .pur .mov, [.t 5], none⟩,
      ⟨some 100, .call 51, [.t 96, .t 97, .t 98, .t 99], none⟩,
      ⟨some 101, .pur .mov, [.t 13], none⟩,
      ⟨some 102, .pur (.bin .neq), [.t 100, .t 101], none⟩]) <|
    .cond (.t 102) (.seq (.ops [
        ⟨some 2, .pur .mov, [.k (.b false)], none⟩]) <|
      .ret) (.skip))) <|
  .ops [
    ⟨some 26, .pur .mov, [.t 8], none⟩,
    ⟨some 27, .pur (.bin .add), [.t 26, .k (.i (1))], none⟩,
    ⟨some 8, .pur .mov, [.t 27], none⟩]
def f3b : ACode :=
  .seq (.ops [
    ⟨some 2, .pur .mov, [.k (.b false)], none⟩]) <|
  .seq (.ops [
    ⟨some 14, .call 49, [], none⟩,
    ⟨some 3, .pur .mov, [.t 14], none⟩]) <|
  .seq (.ops [
    ⟨some 15, .call 50, [.k (.i (60))], none⟩,
    ⟨some 4, .pur .mov, [.t 15], none⟩]) <|
  .seq (.seq (.ops [
    ⟨some 16, .pur .mov, [.t 4], none⟩,
    ⟨some 17, .pur (.nilP false), [.t 16], none⟩]) <|
  .cond (.t 17) (.seq (.ops [
      ⟨some 2, .pur .mov, [.k (.b false)], none⟩]) <|
    .ret) (.skip)) <|
  .seq (.ops [
    ⟨some 5, .pur .mov, [.k (.i (0))], none⟩]) <|
  .seq (.ops [
    ⟨some 6, .pur .mov, [.k (.lst 0 true [])], none⟩]) <|
  .seq (.ops [
    ⟨some 7, .pur .mov, [.k (.lst 0 true [])], none⟩]) <|
  .seq (.seq (.ops [
    ⟨some 8, .pur .mov, [.k (.i (0))], none⟩]) <|
  .block 0 (.loop [2, 9, 10, 11, 12, 13, 18, 19, 20, 21, 22, 23, 24, 25, 26, 27, 28, 29, 30, 31, 32, 33, 34, 35, 36, 37, 38, 39, 40, 41, 42, 43, 44, 45, 46, 47, 48, 49, 50, 51, 52, 53, 54, 55, 56, 57, 58, 59, 60, 61, 62, 63, 64, 65, 66, 67, 68, 69, 70, 71, 72, 73, 74, 75, 76, 77, 78, 79, 80, 81, 82, 83, 84, 85, 86, 87, 88, 89, 90, 91, 92, 93, 94, 95, 96, 97, 98, 99, 100, 101, 102] [] f3_l1)) <|
  .seq (.ops [
    ⟨some 103, .pur .mov, [.t 3], none⟩,
    ⟨some 2, .pur .mov, [.t 103], none⟩]) <|
  .ret
def f3 : AFunc := ⟨104, f3b, [.tmp 2]⟩

/- 4 sluiceway/sluicewaylaw13.ReplayFull -/
def f4_l0 : ACode :=
  .seq (.seq (.ops [
    ⟨some 34, .pur .mov, [.t 8], none⟩,
    ⟨some 35, .pur .mov, [.t 1], none⟩,
    ⟨some 36, .pur (.bin .and), [.t 35, .k (.i (7))], none⟩,
    ⟨some 37, .pur (.bin .lss), [.t 34, .t 36], none⟩]) <|
  .cond (.t 37) (.skip) (.exit 2)) <|
  .seq (.block 3 (.seq (.ops [
      ⟨some 40, .pur .mov, [.t 6], none⟩,
      ⟨some 41, .pur .mov, [.t 8], none⟩,
      ⟨some 42, .pur (.bin .add), [.k (.i (97)), .t 41], none⟩,
      ⟨some 43, .pur (.toInt .u8), [.t 42], none⟩,
      ⟨some 44, .pur (.buildSl 1 1 [.sc (.int .u8 (0))] [0]), [.t 43], none⟩,
      ⟨some 45, .pur .bytesStr, [.t 44], none⟩,
      ⟨some 46, .pur (.bin .add), [.k (.s ⟨#[109, 111, 114, 101]⟩), .t 45], none⟩,
      ⟨some 47, .call 51, [.t 40, .t 46, .k (.i (100)), .k (.i (0))], none⟩,
      ⟨some 48, .pur (.bin .neq), [.t 47, .k (.i (10))], none⟩,
      ⟨some 49, .pur .mov, [.t 48], none⟩,
      ⟨some 50, .pur .mov, [.t 6], some (49, false)⟩,
      ⟨some 51, .call 51, [.t 50, .k (.s ⟨#[105, 100, 97]⟩), .k (.i (100)), .k (.i (99))], some (49, false)⟩,
      ⟨some 52, .pur (.bin .neq), [.t 51, .k (.i (9))], some (49, false)⟩,
      ⟨some 53, .pur .pick, [.t 49, .k (.b true), .t 52], none⟩]) <|
    .cond (.t 53) (.seq (.ops [
        ⟨some 4, .pur .mov, [.k (.b false)], none⟩]) <|
      .ret) (.skip))) <|
  .ops [
    ⟨some 38, .pur .mov, [.t 8], none⟩,
    ⟨some 39, .pur (.bin .add), [.t 38, .k (.i (1))], none⟩,
    ⟨some 8, .pur .mov, [.t 39], none⟩]

def f4_l1 : ACode :=
  .seq (.seq (.ops [
    ⟨some 18, .pur .mov, [.t 7], none⟩,
    ⟨some 19, .pur .mov, [.t 0], none⟩,
    ⟨some 20, .pur (.bin .lss), [.t 18, .t 19], none⟩]) <|
  .cond (.t 20) (.skip) (.exit 0)) <|
  .seq (.block 1 (.seq (.ops [
      ⟨some 23, .pur .mov, [.t 6], none⟩,
      ⟨some 24, .pur .mov, [.t 7], none⟩,
      ⟨some 25, .pur (.bin .add), [.k (.i (97)), .t 24], none⟩,
      ⟨some 26, .pur (.toInt .u8), [.t 25], none⟩,
      ⟨some 27, .pur (.buildSl 1 1 [.sc (.int .u8 (0))] [0]), [.t 26], none⟩,
      ⟨some 28, .pur .bytesStr, [.t 27], none⟩,
      ⟨some 29, .pur (.bin .add), [.k (.s ⟨#[105, 100]⟩), .t 28], none⟩,
      ⟨some 30, .pur .mov, [.t 7], none⟩,
      ⟨some 31, .pur (.bin .add), [.k (.i (100)), .t 30], none⟩,
      ⟨some 32, .call 51, [.t 23, .t 29, .t 31, .k (.i (0))], none⟩,
      ⟨some 33, .pur (.bin .neq), [.t 32, .k (.i (0))], none⟩]) <|
    .cond (.t 33) (.seq (.ops [
        ⟨some 4, .pur .mov, [.k (.b false)], none⟩]) <|
      .ret) (.skip))) <|
  .ops [
    ⟨some 21, .pur .mov, [.t 7], none⟩,
    ⟨some 22, .pur (.bin .add), [.t 21, .k (.i (1))], none⟩,
    ⟨some 7, .pur .mov, [.t 22], none⟩]
def f4b : ACode :=
  .seq (.ops [
    ⟨some 4, .pur .mov, [.k (.b false)], none⟩]) <|
  .seq (.ops [
    ⟨some 9, .call 49, [], none⟩,
    ⟨some 5, .pur .mov, [.t 9], none⟩]) <|
  .seq (.ops [
    ⟨some 10, .pur .mov, [.t 0], none⟩,
    ⟨some 11, .pur (.bin .and), [.t 10, .k (.i (65535))], none⟩,
    ⟨some 12, .pur (.bin .rem), [.t 11, .k (.i (20))], none⟩,
    ⟨some 13, .pur (.bin .add), [.k (.i (1)), .t 12], none⟩,
    ⟨some 0, .pur .mov, [.t 13], none⟩]) <|
  .seq (.ops [
    ⟨some 14, .pur .mov, [.t 0], none⟩,
    ⟨some 15, .call 50, [.t 14], none⟩,
    ⟨some 6, .pur .mov, [.t 15], none⟩]) <|
  .seq (.seq (.ops [
    ⟨some 16, .pur .mov, [.t 6], none⟩,
    ⟨some 17, .pur (.nilP false), [.t 16], none⟩]) <|
  .cond (.t 17) (.seq (.ops [
      ⟨some 4, .pur .mov, [.k (.b false)], none⟩]) <|
    .ret) (.skip)) <|
  .seq (.seq (.ops [
    ⟨some 7, .pur .mov, [.k (.i (0))], none⟩]) <|
  .block 0 (.loop [4, 18, 19, 20, 21, 22, 23, 24, 25, 26, 27, 28, 29, 30, 31, 32, 33] [] f4_l1)) <|
  .seq (.seq (.ops [
    ⟨some 8, .pur .mov, [.k (.i (0))], none⟩]) <|
  .block 2 (.loop [4, 34, 35, 36, 37, 38, 39, 40, 41, 42, 43, 44, 45, 46, 47, 48, 49, 50, 51, 52, 53] [] f4_l0)) <|
  .seq (.seq (.ops [
    ⟨some 54, .pur .mov, [.t 6], none⟩,
    ⟨some 55, .call 52, [.t 54], none⟩,
    ⟨some 56, .pur .mov, [.t 0], none⟩,
    ⟨some 57, .pur (.bin .neq), [.t 55, .t 56], none⟩,
    ⟨some 58, .pur .mov, [.t 57], none⟩,
    ⟨some 59, .pur .mov, [.t 6], some (58, false)⟩,
    ⟨some 60, .call 51, [.t 59, .k (.s ⟨#[108, 97, 116, 101]⟩), .k (.i (300)), .k (.i (99))], some (58, false)⟩,
    ⟨some 61, .pur (.bin .neq), [.t 60, .k (.i (10))], some (58, false)⟩,
    ⟨some 62, .pur .pick, [.t 58, .k (.b true), .t 61], none⟩]) <|
  .cond (.t 62) (.seq (.ops [
      ⟨some 4, .pur .mov, [.k (.b false)], none⟩]) <|
    .ret) (.skip)) <|
  .seq (.ops [
    ⟨some 63, .pur .mov, [.t 5], none⟩,
    ⟨some 64, .pur .mov, [.t 63], none⟩,
    ⟨some 65, .pur .mov, [.t 6], some (64, true)⟩,
    ⟨some 66, .call 51, [.t 65, .k (.s ⟨#[108, 97, 116, 101]⟩), .k (.i (300)), .k (.i (100))], some (64, true)⟩,
    ⟨some 67, .pur (.bin .eql), [.t 66, .k (.i (0))], some (64, true)⟩,
    ⟨some 68, .pur .pick, [.t 64, .t 67, .k (.b false)], none⟩,
    ⟨some 69, .pur .mov, [.t 68], none⟩,
    ⟨some 70, .pur .mov, [.t 6], some (69, true)⟩,
    ⟨some 71, .call 52, [.t 70], some (69, true)⟩,
    ⟨some 72, .pur .mov, [.t 0], some (69, true)⟩,
    ⟨some 73, .pur (.bin .eql), [.t 71, .t 72], some (69, true)⟩,
    ⟨some 74, .pur .pick, [.t 69, .t 73, .k (.b false)], none⟩,
    ⟨some 75, .pur .mov, [.t 74], none⟩,
    ⟨some 76, .pur .mov, [.t 6], some (75, true)⟩,
    ⟨some 77, .call 53, [.t 76, .k (.i (300))], some (75, true)⟩,
    ⟨some 78, .pur .mov, [.t 0], some (75, true)⟩,
    ⟨some 79, .pur (.bin .eql), [.t 77, .t 78], some (75, true)⟩,
    ⟨some 80, .pur .pick, [.t 75, .t 79, .k (.b false)], none⟩,
    ⟨some 81, .pur .mov, [.t 80], none⟩,
    ⟨some 82, .pur .mov, [.t 6], some (81, true)⟩,
    ⟨some 83, .call 52, [.t 82], some (81, true)⟩,
    ⟨some 84, .pur (.bin .eql), [.t 83, .k (.i (0))], some (81, true)⟩,
    ⟨some 85, .pur .pick, [.t 81, .t 84, .k (.b false)], none⟩,
    ⟨some 4, .pur .mov, [.t 85], none⟩]) <|
  .ret
def f4 : AFunc := ⟨86, f4b, [.tmp 4]⟩

/- 5 sluiceway/sluicewaylaw13.ReplayApart -/
def f5_l0 : ACode :=
  .seq (.seq (.ops [
    ⟨some 26, .pur .mov, [.t 8], none⟩,
    ⟨some 27, .pur .mov, [.t 0], none⟩,
    ⟨some 28, .pur .lenL, [.t 27], none⟩,
    ⟨some 29, .pur (.bin .lss), [.t 26, .t 28], none⟩,
    ⟨some 30, .pur .mov, [.t 29], none⟩,
    ⟨some 31, .pur .mov, [.t 8], some (30, true)⟩,
    ⟨some 32, .pur (.bin .lss), [.t 31, .k (.i (50))], some (30, true)⟩,
    ⟨some 33, .pur .pick, [.t 30, .t 32, .k (.b false)], none⟩]) <|
  .cond (.t 33) (.skip) (.exit 0)) <|
  .seq (.block 1 (.seq (.ops [
      ⟨some 36, .pur .mov, [.t 0], none⟩,
      ⟨some 37, .pur .mov, [.t 8], none⟩,
      ⟨some 38, .pur (.iaddr 4), [.t 36, .t 37], none⟩,
      ⟨some 39, .ld none 4 true, [.t 38], none⟩,
      ⟨some 9, .alloc .reg [.s ⟨#[]⟩, .i (0), .i (0), .b false], [], none⟩,
      ⟨none, .st (some 9) 4, [.t 9, .t 39], none⟩]) <|
    .seq (.ops [
      ⟨some 40, .pur (.faddr 0), [.t 9], none⟩,
      ⟨some 41, .ld (some 9) 1 false, [.t 40], none⟩,
      ⟨some 42, .pur (.faddr 0), [.t 9], none⟩,
      ⟨some 43, .ld (some 9) 1 false, [.t 42], none⟩,
      ⟨some 44, .pur .lenS, [.t 43], none⟩,
      ⟨some 45, .pur .min, [.t 44, .k (.i (20))], none⟩,
      ⟨some 46, .pur (.sliceS false true), [.t 41, .t 45], none⟩,
      ⟨some 10, .pur .mov, [.t 46], none⟩]) <|
    .seq (.ops [
      ⟨some 47, .pur .mov, [.t 6], none⟩,
      ⟨some 48, .pur .mov, [.t 10], none⟩,
      ⟨some 49, .pur (.faddr 1), [.t 9], none⟩,
      ⟨some 50, .ld (some 9) 1 false, [.t 49], none⟩,
      ⟨some 51, .pur (.faddr 2), [.t 9], none⟩,
      ⟨some 52, .ld (some 9) 1 false, [.t 51], none⟩,
      ⟨some 53, .call 51, [.t 47, .t 48, .t 50, .t 52], none⟩,
      ⟨some 11, .pur .mov, [.t 53], none⟩]) <|
    .seq (.ops [
      ⟨some 54, .pur .mov, [.t 10], none⟩,
      ⟨some 55, .pur .mov, [.t 1], none⟩,
      ⟨some 56, .pur (.bin .eql), [.t 54, .t 55], none⟩]) <|
    .cond (.t 56) (.seq (.ops [
        ⟨some 57, .pur .mov, [.t 7], none⟩,
        ⟨some 58, .pur .mov, [.t 10], none⟩,
        ⟨some 59, .pur (.faddr 1), [.t 9], none⟩,
        ⟨some 60, .ld (some 9) 1 false, [.t 59], none⟩,
        ⟨some 61, .pur (.faddr 2), [.t 9], none⟩,
        ⟨some 62, .ld (some 9) 1 false, [.t 61], none⟩,
        ⟨some 63, .call 51, [.t 57, .t 58, .t 60, .t 62], none⟩,
        ⟨some 64, .pur .mov, [.t 11], none⟩,
        ⟨some 65, .pur (.bin .neq), [.t 63, .t 64], none⟩]) <|
      .cond (.t 65) (.seq (.ops [
          ⟨some 4, .pur .mov, [.k (.b false)], none⟩]) <|
        .ret) (.skip)) (.seq (.ops [
        ⟨some 66, .pur (.faddr 1), [.t 9], none⟩,
        ⟨some 67, .ld (some 9) 1 false, [.t 66], none⟩,
        ⟨some 68, .pur (.faddr 2), [.t 9], none⟩,
        ⟨some 69, .ld (some 9) 1 false, [.t 68], none⟩,
        ⟨some 70, .pur (.bin .gtr), [.t 67, .t 69], none⟩]) <|
      .cond (.t 70) (.ops [
          ⟨some 71, .pur .mov, [.t 7], none⟩,
          ⟨some 72, .pur (.faddr 2), [.t 9], none⟩,
          ⟨some 73, .ld (some 9) 1 false, [.t 72], none⟩,
          ⟨some 74, .call 53, [.t 71, .t 73], none⟩]) (.skip)))) <|
  .ops [
    ⟨some 34, .pur .mov, [.t 8], none⟩,
    ⟨some 35, .pur (.bin .add), [.t 34, .k (.i (1))], none⟩,
    ⟨some 8, .pur .mov, [.t 35], none⟩]
def f5b : ACode :=
  .seq (.ops [
    ⟨some 4, .pur .mov, [.k (.b false)], none⟩]) <|
  .seq (.ops [
    ⟨some 12, .call 49, [], none⟩,
    ⟨some 5, .pur .mov, [.t 12], none⟩]) <|
  .seq (.ops [
    ⟨some 13, .call 50, [.k (.i (100))], none⟩,
    ⟨some 6, .pur .mov, [.t 13], none⟩]) <|
  .seq (.ops [
    ⟨some 14, .call 50, [.k (.i (100))], none⟩,
    ⟨some 7, .pur .mov, [.t 14], none⟩]) <|
  .seq (.seq (.ops [
    ⟨some 15, .pur .mov, [.t 6], none⟩,
    ⟨some 16, .pur (.nilP false), [.t 15], none⟩,
    ⟨some 17, .pur .mov, [.t 16], none⟩,
    ⟨some 18, .pur .mov, [.t 7], some (17, false)⟩,
    ⟨some 19, .pur (.nilP false), [.t 18], some (17, false)⟩,
    ⟨some 20, .pur .pick, [.t 17, .k (.b true), .t 19], none⟩]) <|
  .cond (.t 20) (.seq (.ops [
      ⟨some 4, .pur .mov, [.k (.b false)], none⟩]) <|
    .ret) (.skip)) <|
  .seq (.ops [
    ⟨some 21, .pur .mov, [.t 1], none⟩,
    ⟨some 22, .pur .mov, [.t 1], none⟩,
    ⟨some 23, .pur .lenS, [.t 22], none⟩,
    ⟨some 24, .pur .min, [.t 23, .k (.i (20))], none⟩,
    ⟨some 25, .pur (.sliceS false true), [.t 21, .t 24], none⟩,
    ⟨some 1, .pur .mov, [.t 25], none⟩]) <|
  .seq (.seq (.ops [
    ⟨some 8, .pur .mov, [.k (.i (0))], none⟩]) <|
  .block 0 (.loop [4, 9, 10, 11, 26, 27, 28, 29, 30, 31, 32, 33, 34, 35, 36, 37, 38, 39, 40, 41, 42, 43, 44, 45, 46, 47, 48, 49, 50, 51, 52, 53, 54, 55, 56, 57, 58, 59, 60, 61, 62, 63, 64, 65, 66, 67, 68, 69, 70, 71, 72, 73, 74] [9] f5_l0)) <|
  .seq (.ops [
    ⟨some 75, .pur .mov, [.t 5], none⟩,
    ⟨some 4, .pur .mov, [.t 75], none⟩]) <|
  .ret
def f5 : AFunc := ⟨76, f5b, [.tmp 4]⟩

/- 6 sluiceway/sluicewaylaw13.ReplayLonger -/
def f6b : ACode :=
  .seq (.ops [
    ⟨some 8, .pur .mov, [.k (.b false)], none⟩]) <|
  .seq (.ops [
    ⟨some 16, .call 49, [], none⟩,
    ⟨some 9, .pur .mov, [.t 16], none⟩]) <|
  .seq (.ops [
    ⟨some 17, .call 50, [.k (.i (1))], none⟩,
    ⟨some 10, .pur .mov, [.t 17], none⟩]) <|
  .seq (.seq (.ops [
    ⟨some 18, .pur .mov, [.t 10], none⟩,
    ⟨some 19, .pur (.nilP false), [.t 18], none⟩]) <|
  .cond (.t 19) (.seq (.ops [
      ⟨some 8, .pur .mov, [.k (.b false)], none⟩]) <|
    .ret) (.skip)) <|
  .seq (.ops [
    ⟨some 20, .pur .mov, [.t 0], none⟩,
    ⟨some 21, .pur .mov, [.t 0], none⟩,
    ⟨some 22, .pur .lenS, [.t 21], none⟩,
    ⟨some 23, .pur .min, [.t 22, .k (.i (30))], none⟩,
    ⟨some 24, .pur (.sliceS false true), [.t 20, .t 23], none⟩,
    ⟨some 0, .pur .mov, [.t 24], none⟩]) <|
  .seq (.ops [
    ⟨some 25, .pur .mov, [.t 1], none⟩,
    ⟨some 26, .pur (.bin .and), [.t 25, .k (.i (1023))], none⟩,
    ⟨some 27, .pur (.bin .add), [.k (.i (1)), .t 26], none⟩,
    ⟨some 1, .pur .mov, [.t 27], none⟩]) <|
  .seq (.ops [
    ⟨some 28, .pur .mov, [.t 2], none⟩,
    ⟨some 29, .pur (.bin .and), [.t 28, .k (.i (1023))], none⟩,
    ⟨some 30, .pur (.bin .add), [.k (.i (1)), .t 29], none⟩,
    ⟨some 2, .pur .mov, [.t 30], none⟩]) <|
  .seq (.ops [
    ⟨some 31, .pur .mov, [.t 10], none⟩,
    ⟨some 32, .pur .mov, [.t 0], none⟩,
    ⟨some 33, .pur .mov, [.t 1], none⟩,
    ⟨some 34, .call 51, [.t 31, .t 32, .t 33, .k (.i (0))], none⟩,
    ⟨some 11, .pur .mov, [.t 34], none⟩]) <|
  .seq (.ops [
    ⟨some 35, .pur .mov, [.t 10], none⟩,
    ⟨some 36, .pur .mov, [.t 0], none⟩,
    ⟨some 37, .pur .mov, [.t 2], none⟩,
    ⟨some 38, .call 51, [.t 35, .t 36, .t 37, .k (.i (0))], none⟩,
    ⟨some 12, .pur .mov, [.t 38], none⟩]) <|
  .seq (.ops [
    ⟨some 39, .pur .mov, [.t 1], none⟩,
    ⟨some 40, .pur .mov, [.t 2], none⟩,
    ⟨some 41, .pur .max, [.t 39, .t 40], none⟩,
    ⟨some 13, .pur .mov, [.t 41], none⟩]) <|
  .seq (.ops [
    ⟨some 42, .pur .mov, [.t 3], none⟩,
    ⟨some 43, .pur (.bin .and), [.t 42, .k (.i (2047))], none⟩,
    ⟨some 3, .pur .mov, [.t 43], none⟩]) <|
  .seq (.ops [
    ⟨some 44, .pur .mov, [.t 10], none⟩,
    ⟨some 45, .pur .mov, [.t 3], none⟩,
    ⟨some 46, .call 53, [.t 44, .t 45], none⟩,
    ⟨some 14, .pur .mov, [.t 46], none⟩]) <|
  .seq (.ops [
    ⟨some 15, .pur .mov, [.k (.i (0))], none⟩]) <|
  .seq (.seq (.ops [
    ⟨some 47, .pur .mov, [.t 3], none⟩,
    ⟨some 48, .pur .mov, [.t 13], none⟩,
    ⟨some 49, .pur (.bin .geq), [.t 47, .t 48], none⟩]) <|
  .cond (.t 49) (.ops [
      ⟨some 15, .pur .mov, [.k (.i (1))], none⟩]) (.skip)) <|
  .seq (.ops [
    ⟨some 50, .pur .mov, [.t 9], none⟩,
    ⟨some 51, .pur .mov, [.t 50], none⟩,
    ⟨some 52, .pur .mov, [.t 11], some (51, true)⟩,
    ⟨some 53, .pur (.bin .eql), [.t 52, .k (.i (0))], some (51, true)⟩,
    ⟨some 54, .pur .pick, [.t 51, .t 53, .k (.b false)], none⟩,
    ⟨some 55, .pur .mov, [.t 54], none⟩,
    ⟨some 56, .pur .mov, [.t 12], some (55, true)⟩,
    ⟨some 57, .pur (.bin .eql), [.t 56, .k (.i (9))], some (55, true)⟩,
    ⟨some 58, .pur .pick, [.t 55, .t 57, .k (.b false)], none⟩,
    ⟨some 59, .pur .mov, [.t 58], none⟩,
    ⟨some 60, .pur .mov, [.t 14], some (59, true)⟩,
    ⟨some 61, .pur .mov, [.t 15], some (59, true)⟩,
    ⟨some 62, .pur (.bin .eql), [.t 60, .t 61], some (59, true)⟩,
    ⟨some 63, .pur .pick, [.t 59, .t 62, .k (.b false)], none⟩,
    ⟨some 64, .pur .mov, [.t 63], none⟩,
    ⟨some 65, .pur .mov, [.t 10], some (64, true)⟩,
    ⟨some 66, .call 52, [.t 65], some (64, true)⟩,
    ⟨some 67, .pur .mov, [.t 15], some (64, true)⟩,
    ⟨some 68, .pur (.bin .sub), [.k (.i (1)), .t 67], some (64, true)⟩,
    ⟨some 69, .pur (.bin .eql), [.t 66, .t 68], some (64, true)⟩,
    ⟨some 70, .pur .pick, [.t 64, .t 69, .k (.b false)], none⟩,
    ⟨some 8, .pur .mov, [.t 70], none⟩]) <|
  .ret
def f6 : AFunc := ⟨71, f6b, [.tmp 8]⟩

/- 7 sluiceway/sluicewaylaw13.ReplayPlays -/
def f7_l0 : ACode :=
  .seq (.seq (.ops [
    ⟨some 18, .pur .mov, [.t 8], none⟩,
    ⟨some 19, .pur .mov, [.t 1], none⟩,
    ⟨some 20, .pur .lenL, [.t 19], none⟩,
    ⟨some 21, .pur (.bin .lss), [.t 18, .t 20], none⟩,
    ⟨some 22, .pur .mov, [.t 21], none⟩,
    ⟨some 23, .pur .mov, [.t 8], some (22, true)⟩,
    ⟨some 24, .pur (.bin .lss), [.t 23, .k (.i (100))], some (22, true)⟩,
    ⟨some 25, .pur .pick, [.t 22, .t 24, .k (.b false)], none⟩]) <|
  .cond (.t 25) (.skip) (.exit 0)) <|
  .seq (.block 1 (.seq (.ops [
      ⟨some 28, .pur .mov, [.t 1], none⟩,
      ⟨some 29, .pur .mov, [.t 8], none⟩,
      ⟨some 30, .pur (.iaddr 4), [.t 28, .t 29], none⟩,
      ⟨some 31, .ld none 4 true, [.t 30], none⟩,
      ⟨some 9, .alloc .reg [.s ⟨#[]⟩, .i (0), .i (0), .b false], [], none⟩,
      ⟨none, .st (some 9) 4, [.t 9, .t 31], none⟩]) <|
    .seq (.ops [
      ⟨some 32, .pur (.faddr 0), [.t 9], none⟩,
      ⟨some 33, .ld (some 9) 1 false, [.t 32], none⟩,
      ⟨some 34, .pur (.faddr 0), [.t 9], none⟩,
      ⟨some 35, .ld (some 9) 1 false, [.t 34], none⟩,
      ⟨some 36, .pur .lenS, [.t 35], none⟩,
      ⟨some 37, .pur .min, [.t 36, .k (.i (20))], none⟩,
      ⟨some 38, .pur (.sliceS false true), [.t 33, .t 37], none⟩,
      ⟨some 10, .pur .mov, [.t 38], none⟩]) <|
    .seq (.seq (.ops [
      ⟨some 39, .pur (.faddr 3), [.t 9], none⟩,
      ⟨some 40, .ld (some 9) 1 false, [.t 39], none⟩]) <|
    .cond (.t 40) (.seq (.ops [
        ⟨some 41, .pur .mov, [.t 6], none⟩,
        ⟨some 42, .pur (.faddr 2), [.t 9], none⟩,
        ⟨some 43, .ld (some 9) 1 false, [.t 42], none⟩,
        ⟨some 44, .call 53, [.t 41, .t 43], none⟩,
        ⟨some 45, .pur .mov, [.t 7], none⟩,
        ⟨some 46, .pur (.faddr 2), [.t 9], none⟩,
        ⟨some 47, .ld (some 9) 1 false, [.t 46], none⟩,
        ⟨some 48, .call 55, [.t 45, .t 47], none⟩,
        ⟨some 49, .pur (.bin .neq), [.t 44, .t 48], none⟩]) <|
      .cond (.t 49) (.seq (.ops [
          ⟨some 4, .pur .mov, [.k (.b false)], none⟩]) <|
        .ret) (.skip)) (.seq (.ops [
        ⟨some 50, .pur .mov, [.t 6], none⟩,
        ⟨some 51, .pur .mov, [.t 10], none⟩,
        ⟨some 52, .pur (.faddr 1), [.t 9], none⟩,
        ⟨some 53, .ld (some 9) 1 false, [.t 52], none⟩,
        ⟨some 54, .pur (.faddr 2), [.t 9], none⟩,
        ⟨some 55, .ld (some 9) 1 false, [.t 54], none⟩,
        ⟨some 56, .call 51, [.t 50, .t 51, .t 53, .t 55], none⟩,
        ⟨some 57, .pur .mov, [.t 7], none⟩,
        ⟨some 58, .pur .mov, [.t 10], none⟩,
        ⟨some 59, .pur (.faddr 1), [.t 9], none⟩,
        ⟨some 60, .ld (some 9) 1 false, [.t 59], none⟩,
        ⟨some 61, .pur (.faddr 2), [.t 9], none⟩,
        ⟨some 62, .ld (some 9) 1 false, [.t 61], none⟩,
        ⟨some 63, .call 56, [.t 57, .t 58, .t 60, .t 62], none⟩,
        ⟨some 64, .pur (.bin .neq), [.t 56, .t 63], none⟩]) <|
      .cond (.t 64) (.seq (.ops [
          ⟨some 4, .pur .mov, [.k (.b false)], none⟩]) <|
        .ret) (.skip))) <|
    .seq (.ops [
      ⟨some 65, .pur .mov, [.t 6], none⟩,
      ⟨some 66, .pur .mov, [.t 7], none⟩,
      ⟨some 67, .call 57, [.t 65, .t 66], none⟩,
      ⟨some 68, .pur (.un .not), [.t 67], none⟩]) <|
    .cond (.t 68) (.seq (.ops [
        ⟨some 4, .pur .mov, [.k (.b false)], none⟩]) <|
      .ret) (.skip))) <|
  .ops [
    ⟨some 26, .pur .mov, [.t 8], none⟩,
    ⟨some 27, .pur (.bin .add), [.t 26, .k (.i (1))], none⟩,
    ⟨some 8, .pur .mov, [.t 27], none⟩]
def f7b : ACode :=
  .seq (.ops [
    ⟨some 4, .pur .mov, [.k (.b false)], none⟩]) <|
  .seq (.ops [
    ⟨some 11, .call 49, [], none⟩,
    ⟨some 5, .pur .mov, [.t 11], none⟩]) <|
  .seq (.ops [
    ⟨some 12, .pur .mov, [.t 0], none⟩,
    ⟨some 13, .call 50, [.t 12], none⟩,
    ⟨some 6, .pur .mov, [.t 13], none⟩]) <|
  .seq (.ops [
    ⟨some 14, .pur .mov, [.t 0], none⟩,
    ⟨some 15, .call 54, [.t 14], none⟩,
    ⟨some 7, .pur .mov, [.t 15], none⟩]) <|
  .seq (.seq (.ops [
    ⟨some 16, .pur .mov, [.t 6], none⟩,
    ⟨some 17, .pur (.nilP false), [.t 16], none⟩]) <|
  .cond (.t 17) (.seq (.ops [
      ⟨some 4, .pur .mov, [.k (.b false)], none⟩]) <|
    .ret) (.skip)) <|
  .seq (.seq (.ops [
    ⟨some 8, .pur .mov, [.k (.i (0))], none⟩]) <|
  .block 0 (.loop [4, 9, 10, 18, 19, 20, 21, 22, 23, 24, 25, 26, 27, 28, 29, 30, 31, 32, 33, 34, 35, 36, 37, 38, 39, 40, 41, 42, 43, 44, 45, 46, 47, 48, 49, 50, 51, 52, 53, 54, 55, 56, 57, 58, 59, 60, 61, 62, 63, 64, 65, 66, 67, 68] [9] f7_l0)) <|
  .seq (.ops [
    ⟨some 69, .pur .mov, [.t 5], none⟩,
    ⟨some 4, .pur .mov, [.t 69], none⟩]) <|
  .ret
def f7 : AFunc := ⟨70, f7b, [.tmp 4]⟩

/- 8 sluiceway/sluicewaylaw13.ReplayOver -/
def f8_l0 : ACode :=
  .seq (.seq (.ops [
    ⟨some 17, .pur .mov, [.t 7], none⟩,
    ⟨some 18, .pur .mov, [.t 1], none⟩,
    ⟨some 19, .pur .lenL, [.t 18], none⟩,
    ⟨some 20, .pur (.bin .lss), [.t 17, .t 19], none⟩,
    ⟨some 21, .pur .mov, [.t 20], none⟩,
    ⟨some 22, .pur .mov, [.t 7], some (21, true)⟩,
    ⟨some 23, .pur (.bin .lss), [.t 22, .k (.i (50))], some (21, true)⟩,
    ⟨some 24, .pur .pick, [.t 21, .t 23, .k (.b false)], none⟩]) <|
  .cond (.t 24) (.skip) (.exit 0)) <|
  .seq (.block 1 (.ops [
      ⟨some 27, .pur .mov, [.t 6], none⟩,
      ⟨some 28, .pur .mov, [.t 1], none⟩,
      ⟨some 29, .pur .mov, [.t 7], none⟩,
      ⟨some 30, .pur (.iaddr 4), [.t 28, .t 29], none⟩,
      ⟨some 31, .pur (.faddr 0), [.t 30], none⟩,
      ⟨some 32, .ld none 1 false, [.t 31], none⟩,
      ⟨some 33, .pur .mov, [.t 1], none⟩,
      ⟨some 34, .pur .mov, [.t 7], none⟩,
      ⟨some 35, .pur (.iaddr 4), [.t 33, .t 34], none⟩,
      ⟨some 36, .pur (.faddr 0), [.t 35], none⟩,
      ⟨some 37, .ld none 1 false, [.t 36], none⟩,
      ⟨some 38, .pur .lenS, [.t 37], none⟩,
      ⟨some 39, .pur .min, [.t 38, .k (.i (20))], none⟩,
      ⟨some 40, .pur (.sliceS false true), [.t 32, .t 39], none⟩,
      ⟨some 41, .pur .mov, [.t 1], none⟩,
      ⟨some 42, .pur .mov, [.t 7], none⟩,
      ⟨some 43, .pur (.iaddr 4), [.t 41, .t 42], none⟩,
      ⟨some 44, .pur (.faddr 1), [.t 43], none⟩,
      ⟨some 45, .ld none 1 false, [.t 44], none⟩,
      ⟨some 46, .pur .mov, [.t 1], none⟩,
      ⟨some 47, .pur .mov, [.t 7], none⟩,
      ⟨some 48, .pur (.iaddr 4), [.t 46, .t 47], none⟩,
      ⟨some 49, .pur (.faddr 2), [.t 48], none⟩,
      ⟨some 50, .ld none 1 false, [.t 49], none⟩,
      ⟨some 51, .call 51, [.t 27, .t 40, .t 45, .t 50], none⟩])) <|
  .ops [
    ⟨some 25, .pur .mov, [.t 7], none⟩,
    ⟨some 26, .pur (.bin .add), [.t 25, .k (.i (1))], none⟩,
    ⟨some 7, .pur .mov, [.t 26], none⟩]
def f8b : ACode :=
  .seq (.ops [
    ⟨some 4, .pur .mov, [.k (.b false)], none⟩]) <|
  .seq (.ops [
    ⟨some 11, .call 49, [], none⟩,
    ⟨some 5, .pur .mov, [.t 11], none⟩]) <|
  .seq (.ops [
    ⟨some 12, .pur .mov, [.t 0], none⟩,
    ⟨some 13, .pur (.bin .and), [.t 12, .k (.i (63))], none⟩,
    ⟨some 14, .call 50, [.t 13], none⟩,
    ⟨some 6, .pur .mov, [.t 14], none⟩]) <|
  .seq (.seq (.ops [
    ⟨some 15, .pur .mov, [.t 6], none⟩,
    ⟨some 16, .pur (.nilP false), [.t 15], none⟩]) <|
  .cond (.t 16) (.seq (.ops [
      ⟨some 4, .pur .mov, [.k (.b false)], none⟩]) <|
    .ret) (.skip)) <|
  .seq (.seq (.ops [
    ⟨some 7, .pur .mov, [.k (.i (0))], none⟩]) <|
  .block 0 (.loop [17, 18, 19, 20, 21, 22, 23, 24, 25, 26, 27, 28, 29, 30, 31, 32, 33, 34, 35, 36, 37, 38, 39, 40, 41, 42, 43, 44, 45, 46, 47, 48, 49, 50, 51] [] f8_l0)) <|
  .seq (.ops [
    ⟨some 52, .pur .mov, [.t 6], none⟩,
    ⟨some 53, .call 52, [.t 52], none⟩,
    ⟨some 8, .pur .mov, [.t 53], none⟩]) <|
  .seq (.ops [
    ⟨some 54, .pur .mov, [.t 6], none⟩,
    ⟨some 55, .call 58, [.t 54], none⟩,
    ⟨some 9, .pur .mov, [.t 55], none⟩]) <|
  .seq (.seq (.ops [
    ⟨some 56, .pur .mov, [.t 9], none⟩,
    ⟨some 57, .pur .lenL, [.t 56], none⟩,
    ⟨some 58, .pur .mov, [.t 8], none⟩,
    ⟨some 59, .pur (.bin .neq), [.t 57, .t 58], none⟩,
    ⟨some 60, .pur .mov, [.t 59], none⟩,
    ⟨some 61, .pur .mov, [.t 6], some (60, false)⟩,
    ⟨some 62, .call 53, [.t 61, .k (.i (9223372036854775807))], some (60, false)⟩,
    ⟨some 63, .pur .mov, [.t 8], some (60, false)⟩,
    ⟨some 64, .pur (.bin .neq), [.t 62, .t 63], some (60, false)⟩,
    ⟨some 65, .pur .pick, [.t 60, .k (.b true), .t 64], none⟩,
    ⟨some 66, .pur .mov, [.t 65], none⟩,
    ⟨some 67, .pur .mov, [.t 6], some (66, false)⟩,
    ⟨some 68, .call 52, [.t 67], some (66, false)⟩,
    ⟨some 69, .pur (.bin .neq), [.t 68, .k (.i (0))], some (66, false)⟩,
    ⟨some 70, .pur .pick, [.t 66, .k (.b true), .t 69], none⟩,
    ⟨some 71, .pur .mov, [.t 70], none⟩,
    ⟨some 72, .pur .mov, [.t 6], some (71, false)⟩,
    ⟨some 73, .call 58, [.t 72], some (71, false)⟩,
    ⟨some 74, .pur .lenL, [.t 73], some (71, false)⟩,
    ⟨some 75, .pur (.bin .neq), [.t 74, .k (.i (0))], some (71, false)⟩,
    ⟨some 76, .pur .pick, [.t 71, .k (.b true), .t 75], none⟩]) <|
  .cond (.t 76) (.seq (.ops [
      ⟨some 4, .pur .mov, [.k (.b false)], none⟩]) <|
    .ret) (.skip)) <|
  .seq (.ops [
    ⟨some 10, .pur .mov, [.k (.i (0))], none⟩]) <|
  .seq (.seq (.ops [
    ⟨some 77, .pur .mov, [.t 0], none⟩,
    ⟨some 78, .pur (.bin .and), [.t 77, .k (.i (63))], none⟩,
    ⟨some 79, .pur (.bin .eql), [.t 78, .k (.i (0))], none⟩]) <|
  .cond (.t 79) (.ops [
      ⟨some 10, .pur .mov, [.k (.i (10))], none⟩]) (.skip)) <|
  .seq (.ops [
    ⟨some 80, .pur .mov, [.t 5], none⟩,
    ⟨some 81, .pur .mov, [.t 80], none⟩,
    ⟨some 82, .pur .mov, [.t 6], some (81, true)⟩,
    ⟨some 83, .call 51, [.t 82, .k (.s ⟨#[120]⟩), .k (.i (5)), .k (.i (4))], some (81, true)⟩,
    ⟨some 84, .pur .mov, [.t 10], some (81, true)⟩,
    ⟨some 85, .pur (.bin .eql), [.t 83, .t 84], some (81, true)⟩,
    ⟨some 86, .pur .pick, [.t 81, .t 85, .k (.b false)], none⟩,
    ⟨some 4, .pur .mov, [.t 86], none⟩]) <|
  .ret
def f8 : AFunc := ⟨87, f8b, [.tmp 4]⟩

/- 9 sluiceway/sluicewaylaw13.ReplayOrder -/
def f9_l0 : ACode :=
  .seq (.seq (.ops [
    ⟨some 103, .pur .mov, [.t 15], none⟩,
    ⟨some 104, .pur .mov, [.t 13], none⟩,
    ⟨some 105, .pur .lenL, [.t 104], none⟩,
    ⟨some 106, .pur (.bin .lss), [.t 103, .t 105], none⟩]) <|
  .cond (.t 106) (.skip) (.exit 4)) <|
  .seq (.block 5 (.seq (.ops [
      ⟨some 109, .pur .mov, [.t 13], none⟩,
      ⟨some 110, .pur .mov, [.t 15], none⟩,
      ⟨some 111, .pur (.iaddr 1), [.t 109, .t 110], none⟩,
      ⟨some 112, .ld none 1 false, [.t 111], none⟩,
      ⟨some 113, .pur .mov, [.t 14], none⟩,
      ⟨some 114, .pur .mov, [.t 15], none⟩,
      ⟨some 115, .pur (.iaddr 1), [.t 113, .t 114], none⟩,
      ⟨some 116, .ld none 1 false, [.t 115], none⟩,
      ⟨some 117, .pur (.bin .neq), [.t 112, .t 116], none⟩,
      ⟨some 118, .pur .mov, [.t 117], none⟩,
      ⟨some 119, .pur .mov, [.t 15], some (118, false)⟩,
      ⟨some 120, .pur (.bin .gtr), [.t 119, .k (.i (0))], some (118, false)⟩,
      ⟨some 121, .pur .mov, [.t 120], some (118, false)⟩,
      ⟨some 122, .pur .mov, [.t 13], some (121, true)⟩,
      ⟨some 123, .pur .mov, [.t 15], some (121, true)⟩,
      ⟨some 124, .pur (.iaddr 1), [.t 122, .t 123], some (121, true)⟩,
      ⟨some 125, .ld none 1 false, [.t 124], some (121, true)⟩,
      ⟨some 126, .pur .mov, [.t 13], some (121, true)⟩,
      ⟨some 127, .pur .mov, [.t 15], some (121, true)⟩,
      ⟨some 128, .pur (.bin .sub), [.t 127, .k (.i (1))], some (121, true)⟩,
      ⟨some 129, .pur (.iaddr 1), [.t 126, .t 128], some (121, true)⟩,
      ⟨some 130, .ld none 1 false, [.t 129], some (121, true)⟩,
      ⟨some 131, .pur (.bin .leq), [.t 125, .t 130], some (121, true)⟩,
      ⟨some 132, .pur .pick, [.t 121, .t 131, .k (.b false)], some (118, false)⟩,
      ⟨some 133, .pur .pick, [.t 118, .k (.b true), .t 132], none⟩]) <|
    .cond (.t 133) (.seq (.ops [
        ⟨some 4, .pur .mov, [.k (.b false)], none⟩]) <|
      .ret) (.skip))) <|
  .ops [
    ⟨some 107, .pur .mov, [.t 15], none⟩,
    ⟨some 108, .pur (.bin .add), [.t 107, .k (.i (1))], none⟩,
    ⟨some 15, .pur .mov, [.t 108], none⟩]

def f9_l1 : ACode :=
  .seq (.seq (.ops [
    ⟨some 79, .pur .mov, [.t 12], none⟩,
    ⟨some 80, .pur .mov, [.t 1], none⟩,
    ⟨some 81, .pur (.bin .add), [.t 80, .k (.i (40))], none⟩,
    ⟨some 82, .pur (.bin .lss), [.t 79, .t 81], none⟩]) <|
  .cond (.t 82) (.skip) (.exit 2)) <|
  .seq (.block 3 (.seq (.ops [
      ⟨some 85, .pur .mov, [.t 6], none⟩,
      ⟨some 86, .call 58, [.t 85], none⟩,
      ⟨some 13, .pur .mov, [.t 86], none⟩]) <|
    .seq (.ops [
      ⟨some 87, .pur .mov, [.t 7], none⟩,
      ⟨some 88, .call 58, [.t 87], none⟩,
      ⟨some 14, .pur .mov, [.t 88], none⟩]) <|
    .seq (.seq (.ops [
      ⟨some 89, .pur .mov, [.t 13], none⟩,
      ⟨some 90, .pur .lenL, [.t 89], none⟩,
      ⟨some 91, .pur .mov, [.t 14], none⟩,
      ⟨some 92, .pur .lenL, [.t 91], none⟩,
      ⟨some 93, .pur (.bin .neq), [.t 90, .t 92], none⟩,
      ⟨some 94, .pur .mov, [.t 93], none⟩,
      ⟨some 95, .pur .mov, [.t 6], some (94, false)⟩,
      ⟨some 96, .pur .mov, [.t 12], some (94, false)⟩,
      ⟨some 97, .call 53, [.t 95, .t 96], some (94, false)⟩,
      ⟨some 98, .pur .mov, [.t 7], some (94, false)⟩,
      ⟨some 99, .pur .mov, [.t 12], some (94, false)⟩,
      ⟨some 100, .call 53, [.t 98, .t 99], some (94, false)⟩,
      ⟨some 101, .pur (.bin .neq), [.t 97, .t 100], some (94, false)⟩,
      ⟨some 102, .pur .pick, [.t 94, .k (.b true), .t 101], none⟩]) <|
    .cond (.t 102) (.seq (.ops [
        ⟨some 4, .pur .mov, [.k (.b false)], none⟩]) <|
      .ret) (.skip)) <|
    .seq (.ops [
      ⟨some 15, .pur .mov, [.k (.i (0))], none⟩]) <|
    .block 4 (.loop [4, 103, 104, 105, 106, 107, 108, 109, 110, 111, 112, 113, 114, 115, 116, 117, 118, 119, 120, 121, 122, 123, 124, 125, 126, 127, 128, 129, 130, 131, 132, 133] [] f9_l0))) <|
  .ops [
    ⟨some 83, .pur .mov, [.t 12], none⟩,
    ⟨some 84, .pur (.bin .add), [.t 83, .k (.i (1))], none⟩,
    ⟨some 12, .pur .mov, [.t 84], none⟩]

def f9_l2 : ACode :=
  .seq (.seq (.ops [
    ⟨some 30, .pur .mov, [.t 9], none⟩,
    ⟨some 31, .pur .mov, [.t 8], none⟩,
    ⟨some 32, .pur (.bin .lss), [.t 30, .t 31], none⟩]) <|
  .cond (.t 32) (.skip) (.exit 0)) <|
  .seq (.block 1 (.seq (.ops [
      ⟨some 35, .pur .mov, [.t 0], none⟩,
      ⟨some 36, .pur .mov, [.t 9], none⟩,
      ⟨some 37, .pur (.iaddr 4), [.t 35, .t 36], none⟩,
      ⟨some 38, .ld none 4 true, [.t 37], none⟩,
      ⟨some 10, .alloc .reg [.s ⟨#[]⟩, .i (0), .i (0), .b false], [], none⟩,
      ⟨none, .st (some 10) 4, [.t 10, .t 38], none⟩]) <|
    .seq (.ops [
      ⟨some 39, .pur .mov, [.t 0], none⟩,
      ⟨some 40, .pur .mov, [.t 8], none⟩,
      ⟨some 41, .pur (.bin .sub), [.t 40, .k (.i (1))], none⟩,
      ⟨some 42, .pur .mov, [.t 9], none⟩,
      ⟨some 43, .pur (.bin .sub), [.t 41, .t 42], none⟩,
      ⟨some 44, .pur (.iaddr 4), [.t 39, .t 43], none⟩,
      ⟨some 45, .ld none 4 true, [.t 44], none⟩,
      ⟨some 11, .alloc .reg [.s ⟨#[]⟩, .i (0), .i (0), .b false], [], none⟩,
      ⟨none, .st (some 11) 4, [.t 11, .t 45], none⟩]) <|
    .seq (.ops [
      ⟨some 46, .pur .mov, [.t 6], none⟩,
      ⟨some 47, .pur (.faddr 0), [.t 10], none⟩,
      ⟨some 48, .ld (some 10) 1 false, [.t 47], none⟩,
      ⟨some 49, .pur (.faddr 0), [.t 10], none⟩,
      ⟨some 50, .ld (some 10) 1 false, [.t 49], none⟩,
      ⟨some 51, .pur .lenS, [.t 50], none⟩,
      ⟨some 52, .pur .min, [.t 51, .k (.i (20))], none⟩,
      ⟨some 53, .pur (.sliceS false true), [.t 48, .t 52], none⟩,
      ⟨some 54, .pur .mov, [.t 1], none⟩,
      ⟨some 55, .pur (.bin .add), [.t 54, .k (.i (1))], none⟩,
      ⟨some 56, .pur (.faddr 1), [.t 10], none⟩,
      ⟨some 57, .ld (some 10) 1 false, [.t 56], none⟩,
      ⟨some 58, .pur (.bin .and), [.t 57, .k (.i (31))], none⟩,
      ⟨some 59, .pur (.bin .add), [.t 55, .t 58], none⟩,
      ⟨some 60, .pur .mov, [.t 1], none⟩,
      ⟨some 61, .call 51, [.t 46, .t 53, .t 59, .t 60], none⟩]) <|
    .ops [
      ⟨some 62, .pur .mov, [.t 7], none⟩,
      ⟨some 63, .pur (.faddr 0), [.t 11], none⟩,
      ⟨some 64, .ld (some 11) 1 false, [.t 63], none⟩,
      ⟨some 65, .pur (.faddr 0), [.t 11], none⟩,
      ⟨some 66, .ld (some 11) 1 false, [.t 65], none⟩,
      ⟨some 67, .pur .lenS, [.t 66], none⟩,
      ⟨some 68, .pur .min, [.t 67, .k (.i (20))], none⟩,
      ⟨some 69, .pur (.sliceS false true), [.t 64, .t 68], none⟩,
      ⟨some 70, .pur .mov, [.t 1], none⟩,
      ⟨some 71, .pur (.bin .add), [.t 70, .k (.i (1))], none⟩,
      ⟨some 72, .pur (.faddr 1), [.t 11], none⟩,
      ⟨some 73, .ld (some 11) 1 false, [.t 72], none⟩,
      ⟨some 74, .pur (.bin .and), [.t 73, .k (.i (31))], none⟩,
      ⟨some 75, .pur (.bin .add), [.t 71, .t 74], none⟩,
      ⟨some 76, .pur .mov, [.t 1], none⟩,
      ⟨some 77, .call 51, [.t 62, .t 69, .t 75, .t 76], none⟩])) <|
  .ops [
    ⟨some 33, .pur .mov, [.t 9], none⟩,
    ⟨some 34, .pur (.bin .add), [.t 33, .k (.i (1))], none⟩,
    ⟨some 9, .pur .mov, [.t 34], none⟩]
def f9b : ACode :=
  .seq (.ops [
    ⟨some 4, .pur .mov, [.k (.b false)], none⟩]) <|
  .seq (.ops [
    ⟨some 16, .call 49, [], none⟩,
    ⟨some 5, .pur .mov, [.t 16], none⟩]) <|
  .seq (.ops [
    ⟨some 17, .pur .mov, [.t 1], none⟩,
    ⟨some 18, .pur (.bin .and), [.t 17, .k (.i (65535))], none⟩,
    ⟨some 1, .pur .mov, [.t 18], none⟩]) <|
  .seq (.ops [
    ⟨some 19, .call 50, [.k (.i (40))], none⟩,
    ⟨some 6, .pur .mov, [.t 19], none⟩]) <|
  .seq (.ops [
    ⟨some 20, .call 50, [.k (.i (40))], none⟩,
    ⟨some 7, .pur .mov, [.t 20], none⟩]) <|
  .seq (.seq (.ops [
    ⟨some 21, .pur .mov, [.t 6], none⟩,
    ⟨some 22, .pur (.nilP false), [.t 21], none⟩,
    ⟨some 23, .pur .mov, [.t 22], none⟩,
    ⟨some 24, .pur .mov, [.t 7], some (23, false)⟩,
    ⟨some 25, .pur (.nilP false), [.t 24], some (23, false)⟩,
    ⟨some 26, .pur .pick, [.t 23, .k (.b true), .t 25], none⟩]) <|
  .cond (.t 26) (.seq (.ops [
      ⟨some 4, .pur .mov, [.k (.b false)], none⟩]) <|
    .ret) (.skip)) <|
  .seq (.ops [
    ⟨some 27, .pur .mov, [.t 0], none⟩,
    ⟨some 28, .pur .lenL, [.t 27], none⟩,
    ⟨some 29, .pur .min, [.t 28, .k (.i (30))], none⟩,
    ⟨some 8, .pur .mov, [.t 29], none⟩]) <|
  .seq (.seq (.ops [
    ⟨some 9, .pur .mov, [.k (.i (0))], none⟩]) <|
  .block 0 (.loop [10, 11, 30, 31, 32, 33, 34, 35, 36, 37, 38, 39, 40, 41, 42, 43, 44, 45, 46, 47, 48, 49, 50, 51, 52, 53, 54, 55, 56, 57, 58, 59, 60, 61, 62, 63, 64, 65, 66, 67, 68, 69, 70, 71, 72, 73, 74, 75, 76, 77] [10, 11] f9_l2)) <|
  .seq (.seq (.ops [
    ⟨some 78, .pur .mov, [.t 1], none⟩,
    ⟨some 12, .pur .mov, [.t 78], none⟩]) <|
  .block 2 (.loop [4, 13, 14, 15, 79, 80, 81, 82, 83, 84, 85, 86, 87, 88, 89, 90, 91, 92, 93, 94, 95, 96, 97, 98, 99, 100, 101, 102, 103, 104, 105, 106, 107, 108, 109, 110, 111, 112, 113, 114, 115, 116, 117, 118, 119, 120, 121, 122, 123, 124, 125, 126, 127, 128, 129, 130, 131, 132, 133] [] f9_l1)) <|
  .seq (.ops [
    ⟨some 134, .pur .mov, [.t 5], none⟩,
    ⟨some 135, .pur .mov, [.t 134], none⟩,
    ⟨some 136, .pur .mov, [.t 6], some (135, true)⟩,
    ⟨some 137, .call 52, [.t 136], some (135, true)⟩,
    ⟨some 138, .pur (.bin .eql), [.t 137, .k (.i (0))], some (135, true)⟩,
    ⟨some 139, .pur .pick, [.t 135, .t 138, .k (.b false)], none⟩,
    ⟨some 4, .pur .mov, [.t 139], none⟩]) <|
  .ret
def f9 : AFunc := ⟨140, f9b, [.tmp 4]⟩

/- 10 sluiceway/sluicewaylaw13.ReplayLate -/
def f10_l0 : ACode :=
  .seq (.seq (.ops [
    ⟨some 86, .pur .mov, [.t 17], none⟩,
    ⟨some 87, .pur .mov, [.t 14], none⟩,
    ⟨some 88, .pur .lenL, [.t 87], none⟩,
    ⟨some 89, .pur (.bin .lss), [.t 86, .t 88], none⟩]) <|
  .cond (.t 89) (.skip) (.exit 2)) <|
  .seq (.block 3 (.seq (.ops [
      ⟨some 92, .pur .mov, [.t 14], none⟩,
      ⟨some 93, .pur .mov, [.t 17], none⟩,
      ⟨some 94, .pur (.iaddr 1), [.t 92, .t 93], none⟩,
      ⟨some 95, .ld none 1 false, [.t 94], none⟩,
      ⟨some 96, .pur .mov, [.t 16], none⟩,
      ⟨some 97, .pur .mov, [.t 17], none⟩,
      ⟨some 98, .pur (.iaddr 1), [.t 96, .t 97], none⟩,
      ⟨some 99, .ld none 1 false, [.t 98], none⟩,
      ⟨some 100, .pur (.bin .neq), [.t 95, .t 99], none⟩]) <|
    .cond (.t 100) (.seq (.ops [
        ⟨some 10, .pur .mov, [.k (.b false)], none⟩]) <|
      .ret) (.skip))) <|
  .ops [
    ⟨some 90, .pur .mov, [.t 17], none⟩,
    ⟨some 91, .pur (.bin .add), [.t 90, .k (.i (1))], none⟩,
    ⟨some 17, .pur .mov, [.t 91], none⟩]

def f10_l1 : ACode :=
  .seq (.seq (.ops [
    ⟨some 24, .pur .mov, [.t 13], none⟩,
    ⟨some 25, .pur .mov, [.t 1], none⟩,
    ⟨some 26, .pur .lenL, [.t 25], none⟩,
    ⟨some 27, .pur (.bin .lss), [.t 24, .t 26], none⟩,
    ⟨some 28, .pur .mov, [.t 27], none⟩,
    ⟨some 29, .pur .mov, [.t 13], some (28, true)⟩,
    ⟨some 30, .pur (.bin .lss), [.t 29, .k (.i (30))], some (28, true)⟩,
    ⟨some 31, .pur .pick, [.t 28, .t 30, .k (.b false)], none⟩]) <|
  .cond (.t 31) (.skip) (.exit 0)) <|
  .seq (.block 1 (.ops [
      ⟨some 34, .pur .mov, [.t 12], none⟩,
      ⟨some 35, .pur .mov, [.t 1], none⟩,
      ⟨some 36, .pur .mov, [.t 13], none⟩,
      ⟨some 37, .pur (.iaddr 4), [.t 35, .t 36], none⟩,
      ⟨some 38, .pur (.faddr 0), [.t 37], none⟩,
      ⟨some 39, .ld none 1 false, [.t 38], none⟩,
      ⟨some 40, .pur .mov, [.t 1], none⟩,
      ⟨some 41, .pur .mov, [.t 13], none⟩,
      ⟨some 42, .pur (.iaddr 4), [.t 40, .t 41], none⟩,
      ⟨some 43, .pur (.faddr 0), [.t 42], none⟩,
      ⟨some 44, .ld none 1 false, [.t 43], none⟩,
      ⟨some 45, .pur .lenS, [.t 44], none⟩,
      ⟨some 46, .pur .min, [.t 45, .k (.i (20))], none⟩,
      ⟨some 47, .pur (.sliceS false true), [.t 39, .t 46], none⟩,
      ⟨some 48, .pur .mov, [.t 1], none⟩,
      ⟨some 49, .pur .mov, [.t 13], none⟩,
      ⟨some 50, .pur (.iaddr 4), [.t 48, .t 49], none⟩,
      ⟨some 51, .pur (.faddr 1), [.t 50], none⟩,
      ⟨some 52, .ld none 1 false, [.t 51], none⟩,
      ⟨some 53, .pur .mov, [.t 1], none⟩,
      ⟨some 54, .pur .mov, [.t 13], none⟩,
      ⟨some 55, .pur (.iaddr 4), [.t 53, .t 54], none⟩,
      ⟨some 56, .pur (.faddr 2), [.t 55], none⟩,
      ⟨some 57, .ld none 1 false, [.t 56], none⟩,
      ⟨some 58, .call 51, [.t 34, .t 47, .t 52, .t 57], none⟩])) <|
  .ops [
    ⟨some 32, .pur .mov, [.t 13], none⟩,
    ⟨some 33, .pur (.bin .add), [.t 32, .k (.i (1))], none⟩,
    ⟨some 13, .pur .mov, [.t 33], none⟩]
def f10b : ACode :=
  .seq (.ops [
    ⟨some 10, .pur .mov, [.k (.b false)], none⟩]) <|
  .seq (.ops [
    ⟨some 18, .call 49, [], none⟩,
    ⟨some 11, .pur .mov, [.t 18], none⟩]) <|
  .seq (.ops [
    ⟨some 19, .pur .mov, [.t 0], none⟩,
    ⟨some 20, .pur (.bin .and), [.t 19, .k (.i (31))], none⟩,
    ⟨some 21, .call 50, [.t 20], none⟩,
    ⟨some 12, .pur .mov, [.t 21], none⟩]) <|
  .seq (.seq (.ops [
    ⟨some 22, .pur .mov, [.t 12], none⟩,
    ⟨some 23, .pur (.nilP false), [.t 22], none⟩]) <|
  .cond (.t 23) (.seq (.ops [
      ⟨some 10, .pur .mov, [.k (.b false)], none⟩]) <|
    .ret) (.skip)) <|
  .seq (.seq (.ops [
    ⟨some 13, .pur .mov, [.k (.i (0))], none⟩]) <|
  .block 0 (.loop [24, 25, 26, 27, 28, 29, 30, 31, 32, 33, 34, 35, 36, 37, 38, 39, 40, 41, 42, 43, 44, 45, 46, 47, 48, 49, 50, 51, 52, 53, 54, 55, 56, 57, 58] [] f10_l1)) <|
  .seq (.ops [
    ⟨some 59, .pur .mov, [.t 3], none⟩,
    ⟨some 60, .pur (.bin .and), [.t 59, .k (.i (1099511627775))], none⟩,
    ⟨some 3, .pur .mov, [.t 60], none⟩]) <|
  .seq (.ops [
    ⟨some 61, .pur .mov, [.t 12], none⟩,
    ⟨some 62, .call 58, [.t 61], none⟩,
    ⟨some 14, .pur .mov, [.t 62], none⟩]) <|
  .seq (.ops [
    ⟨some 63, .pur .mov, [.t 12], none⟩,
    ⟨some 64, .pur .mov, [.t 2], none⟩,
    ⟨some 65, .pur .mov, [.t 2], none⟩,
    ⟨some 66, .pur .lenS, [.t 65], none⟩,
    ⟨some 67, .pur .min, [.t 66, .k (.i (20))], none⟩,
    ⟨some 68, .pur (.sliceS false true), [.t 64, .t 67], none⟩,
    ⟨some 69, .pur .mov, [.t 3], none⟩,
    ⟨some 70, .pur .mov, [.t 4], none⟩,
    ⟨some 71, .pur (.bin .and), [.t 70, .k (.i (65535))], none⟩,
    ⟨some 72, .pur (.bin .sub), [.t 69, .t 71], none⟩,
    ⟨some 73, .pur .mov, [.t 3], none⟩,
    ⟨some 74, .call 51, [.t 63, .t 68, .t 72, .t 73], none⟩,
    ⟨some 15, .pur .mov, [.t 74], none⟩]) <|
  .seq (.ops [
    ⟨some 75, .pur .mov, [.t 12], none⟩,
    ⟨some 76, .call 58, [.t 75], none⟩,
    ⟨some 16, .pur .mov, [.t 76], none⟩]) <|
  .seq (.seq (.ops [
    ⟨some 77, .pur .mov, [.t 15], none⟩,
    ⟨some 78, .pur (.bin .neq), [.t 77, .k (.i (5))], none⟩,
    ⟨some 79, .pur .mov, [.t 78], none⟩,
    ⟨some 80, .pur .mov, [.t 16], some (79, false)⟩,
    ⟨some 81, .pur .lenL, [.t 80], some (79, false)⟩,
    ⟨some 82, .pur .mov, [.t 14], some (79, false)⟩,
    ⟨some 83, .pur .lenL, [.t 82], some (79, false)⟩,
    ⟨some 84, .pur (.bin .neq), [.t 81, .t 83], some (79, false)⟩,
    ⟨some 85, .pur .pick, [.t 79, .k (.b true), .t 84], none⟩]) <|
  .cond (.t 85) (.seq (.ops [
      ⟨some 10, .pur .mov, [.k (.b false)], none⟩]) <|
    .ret) (.skip)) <|
  .seq (.seq (.ops [
    ⟨some 17, .pur .mov, [.k (.i (0))], none⟩]) <|
  .block 2 (.loop [10, 86, 87, 88, 89, 90, 91, 92, 93, 94, 95, 96, 97, 98, 99, 100] [] f10_l0)) <|
  .seq (.ops [
    ⟨some 101, .pur .mov, [.t 11], none⟩,
    ⟨some 10, .pur .mov, [.t 101], none⟩]) <|
  .ret
def f10 : AFunc := ⟨102, f10b, [.tmp 10]⟩

/- 11 sluiceway/sluicewaylaw13.ReplayNames -/
def f11b : ACode :=
  .seq (.ops [
    ⟨some 4, .pur .mov, [.k (.b false)], none⟩]) <|
  .seq (.ops [
    ⟨some 10, .call 49, [], none⟩,
    ⟨some 5, .pur .mov, [.t 10], none⟩]) <|
  .seq (.ops [
    ⟨some 11, .call 50, [.k (.i (2))], none⟩,
    ⟨some 6, .pur .mov, [.t 11], none⟩]) <|
  .seq (.seq (.ops [
    ⟨some 12, .pur .mov, [.t 6], none⟩,
    ⟨some 13, .pur (.nilP false), [.t 12], none⟩]) <|
  .cond (.t 13) (.seq (.ops [
      ⟨some 4, .pur .mov, [.k (.b false)], none⟩]) <|
    .ret) (.skip)) <|
  .seq (.ops [
    ⟨some 14, .pur .mov, [.t 6], none⟩,
    ⟨some 15, .pur .mov, [.t 0], none⟩,
    ⟨some 16, .call 51, [.t 14, .t 15, .k (.i (9)), .k (.i (1))], none⟩,
    ⟨some 7, .pur .mov, [.t 16], none⟩]) <|
  .seq (.ops [
    ⟨some 17, .pur .mov, [.t 6], none⟩,
    ⟨some 18, .pur .mov, [.t 1], none⟩,
    ⟨some 19, .call 51, [.t 17, .t 18, .k (.i (9)), .k (.i (1))], none⟩,
    ⟨some 8, .pur .mov, [.t 19], none⟩]) <|
  .seq (.ops [
    ⟨some 20, .pur .mov, [.t 6], none⟩,
    ⟨some 21, .call 58, [.t 20], none⟩,
    ⟨some 9, .pur .mov, [.t 21], none⟩]) <|
  .seq (.seq (.ops [
    ⟨some 22, .pur .mov, [.t 0], none⟩,
    ⟨some 23, .pur .mov, [.t 1], none⟩,
    ⟨some 24, .pur (.bin .eql), [.t 22, .t 23], none⟩]) <|
  .cond (.t 24) (.seq (.ops [
      ⟨some 25, .pur .mov, [.t 5], none⟩,
      ⟨some 26, .pur .mov, [.t 25], none⟩,
      ⟨some 27, .pur .mov, [.t 7], some (26, true)⟩,
      ⟨some 28, .pur (.bin .eql), [.t 27, .k (.i (0))], some (26, true)⟩,
      ⟨some 29, .pur .pick, [.t 26, .t 28, .k (.b false)], none⟩,
      ⟨some 30, .pur .mov, [.t 29], none⟩,
      ⟨some 31, .pur .mov, [.t 8], some (30, true)⟩,
      ⟨some 32, .pur (.bin .eql), [.t 31, .k (.i (9))], some (30, true)⟩,
      ⟨some 33, .pur .pick, [.t 30, .t 32, .k (.b false)], none⟩,
      ⟨some 34, .pur .mov, [.t 33], none⟩,
      ⟨some 35, .pur .mov, [.t 9], some (34, true)⟩,
      ⟨some 36, .pur .lenL, [.t 35], some (34, true)⟩,
      ⟨some 37, .pur (.bin .eql), [.t 36, .k (.i (1))], some (34, true)⟩,
      ⟨some 38, .pur .pick, [.t 34, .t 37, .k (.b false)], none⟩,
      ⟨some 39, .pur .mov, [.t 38], none⟩,
      ⟨some 40, .pur .mov, [.t 9], some (39, true)⟩,
      ⟨some 41, .pur (.iaddr 1), [.t 40, .k (.i (0))], some (39, true)⟩,
      ⟨some 42, .ld none 1 false, [.t 41], some (39, true)⟩,
      ⟨some 43, .pur .mov, [.t 0], some (39, true)⟩,
      ⟨some 44, .pur (.bin .eql), [.t 42, .t 43], some (39, true)⟩,
      ⟨some 45, .pur .pick, [.t 39, .t 44, .k (.b false)], none⟩,
      ⟨some 4, .pur .mov, [.t 45], none⟩]) <|
    .ret) (.skip)) <|
  .seq (.ops [
    ⟨some 46, .pur .mov, [.t 5], none⟩,
    ⟨some 47, .pur .mov, [.t 46], none⟩,
    ⟨some 48, .pur .mov, [.t 7], some (47, true)⟩,
    ⟨some 49, .pur (.bin .eql), [.t 48, .k (.i (0))], some (47, true)⟩,
    ⟨some 50, .pur .pick, [.t 47, .t 49, .k (.b false)], none⟩,
    ⟨some 51, .pur .mov, [.t 50], none⟩,
    ⟨some 52, .pur .mov, [.t 8], some (51, true)⟩,
    ⟨some 53, .pur (.bin .eql), [.t 52, .k (.i (0))], some (51, true)⟩,
    ⟨some 54, .pur .pick, [.t 51, .t 53, .k (.b false)], none⟩,
    ⟨some 55, .pur .mov, [.t 54], none⟩,
    ⟨some 56, .pur .mov, [.t 9], some (55, true)⟩,
    ⟨some 57, .pur .lenL, [.t 56], some (55, true)⟩,
    ⟨some 58, .pur (.bin .eql), [.t 57, .k (.i (2))], some (55, true)⟩,
    ⟨some 59, .pur .pick, [.t 55, .t 58, .k (.b false)], none⟩,
    ⟨some 60, .pur .mov, [.t 59], none⟩,
    ⟨some 61, .pur .mov, [.t 9], some (60, true)⟩,
    ⟨some 62, .pur (.iaddr 1), [.t 61, .k (.i (0))], some (60, true)⟩,
    ⟨some 63, .ld none 1 false, [.t 62], some (60, true)⟩,
    ⟨some 64, .pur .mov, [.t 0], some (60, true)⟩,
    ⟨some 65, .pur .mov, [.t 1], some (60, true)⟩,
    ⟨some 66, .pur .min, [.t 64, .t 65], some (60, true)⟩,
    ⟨some 67, .pur (.bin .eql), [.t 63, .t 66], some (60, true)⟩,
    ⟨some 68, .pur .pick, [.t 60, .t 67, .k (.b false)], none⟩,
    ⟨some 69, .pur .mov, [.t 68], none⟩,
    ⟨some 70, .pur .mov, [.t 9], some (69, true)⟩,
    ⟨some 71, .pur (.iaddr 1), [.t 70, .k (.i (1))], some (69, true)⟩,
    ⟨some 72, .ld none 1 false, [.t 71], some (69, true)⟩,
    ⟨some 73, .pur .mov, [.t 0], some (69, true)⟩,
    ⟨some 74, .pur .mov, [.t 1], some (69, true)⟩,
    ⟨some 75, .pur .max, [.t 73, .t 74], some (69, true)⟩,
    ⟨some 76, .pur (.bin .eql), [.t 72, .t 75], some (69, true)⟩,
    ⟨some 77, .pur .pick, [.t 69, .t 76, .k (.b false)], none⟩,
    ⟨some 4, .pur .mov, [.t 77], none⟩]) <|
  .ret
def f11 : AFunc := ⟨78, f11b, [.tmp 4]⟩

/- 49 sluiceway/sluicewaylaw13.shown -/
def f49b : ACode :=
  .seq (.ops [
    ⟨some 0, .pur .mov, [.k (.b false)], none⟩]) <|
  .seq (.ops [
    ⟨some 6, .call 50, [.k (.i (1))], none⟩,
    ⟨some 1, .pur .mov, [.t 6], none⟩]) <|
  .seq (.seq (.ops [
    ⟨some 7, .pur .mov, [.t 1], none⟩,
    ⟨some 8, .pur (.nilP false), [.t 7], none⟩]) <|
  .cond (.t 8) (.seq (.ops [
      ⟨some 0, .pur .mov, [.k (.b false)], none⟩]) <|
    .ret) (.skip)) <|
  .seq (.ops [
    ⟨some 9, .pur .mov, [.t 1], none⟩,
    ⟨some 10, .call 51, [.t 9, .k (.s ⟨#[97]⟩), .k (.i (10)), .k (.i (1))], none⟩,
    ⟨some 2, .pur .mov, [.t 10], none⟩]) <|
  .seq (.ops [
    ⟨some 11, .pur .mov, [.t 1], none⟩,
    ⟨some 12, .call 51, [.t 11, .k (.s ⟨#[97]⟩), .k (.i (10)), .k (.i (1))], none⟩,
    ⟨some 3, .pur .mov, [.t 12], none⟩]) <|
  .seq (.ops [
    ⟨some 13, .pur .mov, [.t 1], none⟩,
    ⟨some 14, .call 51, [.t 13, .k (.s ⟨#[98]⟩), .k (.i (10)), .k (.i (1))], none⟩,
    ⟨some 4, .pur .mov, [.t 14], none⟩]) <|
  .seq (.ops [
    ⟨some 15, .pur .mov, [.t 1], none⟩,
    ⟨some 16, .call 51, [.t 15, .k (.s ⟨#[98]⟩), .k (.i (20)), .k (.i (10))], none⟩,
    ⟨some 5, .pur .mov, [.t 16], none⟩]) <|
  .seq (.ops [
    ⟨some 17, .pur .mov, [.t 2], none⟩,
    ⟨some 18, .pur (.bin .eql), [.t 17, .k (.i (0))], none⟩,
    ⟨some 19, .pur .mov, [.t 18], none⟩,
    ⟨some 20, .pur .mov, [.t 3], some (19, true)⟩,
    ⟨some 21, .pur (.bin .eql), [.t 20, .k (.i (9))], some (19, true)⟩,
    ⟨some 22, .pur .pick, [.t 19, .t 21, .k (.b false)], none⟩,
    ⟨some 23, .pur .mov, [.t 22], none⟩,
    ⟨some 24, .pur .mov, [.t 4], some (23, true)⟩,
    ⟨some 25, .pur (.bin .eql), [.t 24, .k (.i (10))], some (23, true)⟩,
    ⟨some 26, .pur .pick, [.t 23, .t 25, .k (.b false)], none⟩,
    ⟨some 27, .pur .mov, [.t 26], none⟩,
    ⟨some 28, .pur .mov, [.t 5], some (27, true)⟩,
    ⟨some 29, .pur (.bin .eql), [.t 28, .k (.i (0))], some (27, true)⟩,
    ⟨some 30, .pur .pick, [.t 27, .t 29, .k (.b false)], none⟩,
    ⟨some 31, .pur .mov, [.t 30], none⟩,
    ⟨some 32, .pur .mov, [.t 1], some (31, true)⟩,
    ⟨some 33, .call 52, [.t 32], some (31, true)⟩,
    ⟨some 34, .pur (.bin .eql), [.t 33, .k (.i (1))], some (31, true)⟩,
    ⟨some 35, .pur .pick, [.t 31, .t 34, .k (.b false)], none⟩,
    ⟨some 36, .pur .mov, [.t 35], none⟩,
    ⟨some 37, .pur .mov, [.t 1], some (36, true)⟩,
    ⟨some 38, .call 51, [.t 37, .k (.s ⟨#[120]⟩), .k (.i (5)), .k (.i (5))], some (36, true)⟩,
    ⟨some 39, .pur (.bin .eql), [.t 38, .k (.i (5))], some (36, true)⟩,
    ⟨some 40, .pur .pick, [.t 36, .t 39, .k (.b false)], none⟩,
    ⟨some 0, .pur .mov, [.t 40], none⟩]) <|
  .ret
def f49 : AFunc := ⟨41, f49b, [.tmp 0]⟩

/- 50 sluiceway/replay.New -/
def f50b : ACode :=
  .seq (.ops [
    ⟨some 2, .pur .mov, [.k (.sc (.pointer none))], none⟩]) <|
  .seq (.ops [
    ⟨some 3, .pur .mov, [.t 0], none⟩,
    ⟨some 4, .pur .max, [.t 3, .k (.i (0))], none⟩,
    ⟨some 5, .mkmap, [], none⟩,
    ⟨some 6, .pur (.build [.i (0), .sc (.map none)] [(0, 1), (1, 1)]), [.t 4, .t 5], none⟩,
    ⟨some 7, .box .heap, [.t 6], none⟩,
    ⟨some 2, .pur .mov, [.t 7], none⟩]) <|
  .ret
def f50 : AFunc := ⟨8, f50b, [.tmp 2]⟩

/- 51 (*sluiceway/replay.Cache).Seen -/
def f51_l0 : ACode :=
  .seq (.ops [
    ⟨some 9, .pur .mov, [.k (.i (5))], none⟩]) <|
  .seq (.ops [
    ⟨some 10, .pur .mov, [.k (.i (0))], none⟩]) <|
  .seq (.ops [
    ⟨some 11, .pur .mov, [.k (.b false)], none⟩]) <|
  .seq (.seq (.ops [
    ⟨some 12, .pur .mov, [.t 2], none⟩,
    ⟨some 13, .pur .mov, [.t 3], none⟩,
    ⟨some 14, .pur (.bin .leq), [.t 12, .t 13], none⟩]) <|
  .cond (.t 14) (.goto 0) (.skip)) <|
  .seq (.ops [
    ⟨some 15, .pur .mov, [.t 0], none⟩,
    ⟨some 16, .pur .mov, [.t 3], none⟩,
    ⟨some 17, .call 53, [.t 15, .t 16], none⟩]) <|
  .seq (.seq (.ops [
    ⟨some 19, .pur .mov, [.t 0], none⟩,
    ⟨some 20, .pur .nilchk, [.t 19], none⟩,
    ⟨some 21, .pur (.faddr 1), [.t 20], none⟩,
    ⟨some 22, .ld none 1 false, [.t 21], none⟩,
    ⟨some 23, .pur .mov, [.t 1], none⟩,
    ⟨some 24, .lookup true (.i (0)) true, [.t 22, .t 23], none⟩,
    ⟨some 18, .pur .mov, [.t 24], none⟩,
    ⟨some 25, .pur (.extract 0), [.t 18], none⟩,
    ⟨some 26, .pur (.extract 1), [.t 18], none⟩,
    ⟨some 10, .pur .mov, [.t 25], none⟩,
    ⟨some 11, .pur .mov, [.t 26], none⟩]) <|
  .seq (.ops [
    ⟨some 27, .pur .mov, [.t 11], none⟩]) <|
  .cond (.t 27) (.seq (.ops [
      ⟨some 28, .pur .mov, [.t 0], none⟩,
      ⟨some 29, .pur .nilchk, [.t 28], none⟩,
      ⟨some 30, .pur (.faddr 1), [.t 29], none⟩,
      ⟨some 31, .ld none 1 false, [.t 30], none⟩,
      ⟨some 32, .pur .mov, [.t 1], none⟩,
      ⟨some 33, .pur .mov, [.t 10], none⟩,
      ⟨some 34, .pur .mov, [.t 2], none⟩,
      ⟨some 35, .pur .max, [.t 33, .t 34], none⟩,
      ⟨none, .mapset true, [.t 31, .t 32, .t 35], none⟩]) <|
    .seq (.ops [
      ⟨some 9, .pur .mov, [.k (.i (9))], none⟩]) <|
    .goto 0) (.skip)) <|
  .seq (.seq (.ops [
    ⟨some 9, .pur .mov, [.k (.i (10))], none⟩]) <|
  .seq (.ops [
    ⟨some 36, .pur .mov, [.t 0], none⟩,
    ⟨some 37, .pur .nilchk, [.t 36], none⟩,
    ⟨some 38, .pur (.faddr 1), [.t 37], none⟩,
    ⟨some 39, .ld none 1 false, [.t 38], none⟩,
    ⟨some 40, .lenM, [.t 39], none⟩,
    ⟨some 41, .pur .mov, [.t 0], none⟩,
    ⟨some 42, .pur .nilchk, [.t 41], none⟩,
    ⟨some 43, .pur (.faddr 0), [.t 42], none⟩,
    ⟨some 44, .ld none 1 false, [.t 43], none⟩,
    ⟨some 45, .pur (.bin .geq), [.t 40, .t 44], none⟩]) <|
  .cond (.t 45) (.goto 0) (.skip)) <|
  .seq (.ops [
    ⟨some 46, .pur .mov, [.t 0], none⟩,
    ⟨some 47, .pur .nilchk, [.t 46], none⟩,
    ⟨some 48, .pur (.faddr 1), [.t 47], none⟩,
    ⟨some 49, .ld none 1 false, [.t 48], none⟩,
    ⟨some 50, .pur .mov, [.t 1], none⟩,
    ⟨some 51, .pur .mov, [.t 2], none⟩,
    ⟨none, .mapset true, [.t 49, .t 50, .t 51], none⟩]) <|
  .seq (.ops [
    ⟨some 9, .pur .mov, [.k (.i (0))], none⟩]) <|
  .seq (.label 0) <|
  .seq (.ops [
    ⟨some 52, .pur .mov, [.t 9], none⟩,
    ⟨some 8, .pur .mov, [.t 52], none⟩]) <|
  .ret
def f51b : ACode :=
  .seq (.ops [
    ⟨some 8, .pur .mov, [.k (.i (0))], none⟩]) <|
  .scope f51_l0 f51_l0
def f51 : AFunc := ⟨53, f51b, [.tmp 8]⟩

/- 52 (*sluiceway/replay.Cache).Len -/
def f52b : ACode :=
  .seq (.ops [
    ⟨some 2, .pur .mov, [.k (.i (0))], none⟩]) <|
  .seq (.ops [
    ⟨some 3, .pur .mov, [.t 0], none⟩,
    ⟨some 4, .pur .nilchk, [.t 3], none⟩,
    ⟨some 5, .pur (.faddr 1), [.t 4], none⟩,
    ⟨some 6, .ld none 1 false, [.t 5], none⟩,
    ⟨some 7, .lenM, [.t 6], none⟩,
    ⟨some 2, .pur .mov, [.t 7], none⟩]) <|
  .ret
def f52 : AFunc := ⟨8, f52b, [.tmp 2]⟩

/- 54 sluiceway/sluicewayref13.New -/
def f54b : ACode :=
  .seq (.ops [
    ⟨some 2, .pur .mov, [.k (.sc (.pointer none))], none⟩]) <|
  .seq (.seq (.ops [
    ⟨some 3, .pur .mov, [.t 0], none⟩,
    ⟨some 4, .pur (.bin .lss), [.t 3, .k (.i (0))], none⟩]) <|
  .cond (.t 4) (.ops [
      ⟨some 0, .pur .mov, [.k (.i (0))], none⟩]) (.skip)) <|
  .seq (.ops [
    ⟨some 5, .pur .mov, [.t 0], none⟩,
    ⟨some 6, .pur (.build [.i (0), .lst 0 true []] [(0, 1)]), [.t 5], none⟩,
    ⟨some 7, .box .heap, [.t 6], none⟩,
    ⟨some 2, .pur .mov, [.t 7], none⟩]) <|
  .ret
def f54 : AFunc := ⟨8, f54b, [.tmp 2]⟩

/- 55 (*sluiceway/sluicewayref13.Cache).Prune -/
def f55_l0 : ACode :=
  .seq (.seq (.ops [
    ⟨some 9, .pur .mov, [.t 6], none⟩,
    ⟨some 10, .pur .mov, [.t 0], none⟩,
    ⟨some 11, .pur .nilchk, [.t 10], none⟩,
    ⟨some 12, .pur (.faddr 1), [.t 11], none⟩,
    ⟨some 13, .ld none 1 false, [.t 12], none⟩,
    ⟨some 14, .pur .lenL, [.t 13], none⟩,
    ⟨some 15, .pur (.bin .lss), [.t 9, .t 14], none⟩]) <|
  .cond (.t 15) (.skip) (.exit 0)) <|
  .seq (.block 1 (.seq (.ops [
      ⟨some 18, .pur .mov, [.t 0], none⟩,
      ⟨some 19, .pur .nilchk, [.t 18], none⟩,
      ⟨some 20, .pur (.faddr 1), [.t 19], none⟩,
      ⟨some 21, .ld none 1 false, [.t 20], none⟩,
      ⟨some 22, .pur .mov, [.t 6], none⟩,
      ⟨some 23, .pur (.iaddr 2), [.t 21, .t 22], none⟩,
      ⟨some 24, .pur (.faddr 1), [.t 23], none⟩,
      ⟨some 25, .ld none 1 false, [.t 24], none⟩,
      ⟨some 26, .pur .mov, [.t 1], none⟩,
      ⟨some 27, .pur (.bin .gtr), [.t 25, .t 26], none⟩]) <|
    .cond (.t 27) (.ops [
        ⟨some 28, .pur .mov, [.t 5], none⟩,
        ⟨some 29, .pur .mov, [.t 0], none⟩,
        ⟨some 30, .pur .nilchk, [.t 29], none⟩,
        ⟨some 31, .pur (.faddr 1), [.t 30], none⟩,
        ⟨some 32, .ld none 1 false, [.t 31], none⟩,
        ⟨some 33, .pur .mov, [.t 6], none⟩,
        ⟨some 34, .pur (.iaddr 2), [.t 32, .t 33], none⟩,
        ⟨some 35, .ld none 2 true, [.t 34], none⟩,
        ⟨some 36, .pur (.buildSl 2 1 [.s ⟨#[]⟩, .i (0)] [0]), [.t 35], none⟩,
        ⟨some 37, .append 2 24, [.t 28, .t 36], none⟩,
        ⟨some 5, .pur .mov, [.t 37], none⟩]) (.skip))) <|
  .ops [
    ⟨some 16, .pur .mov, [.t 6], none⟩,
    ⟨some 17, .pur (.bin .add), [.t 16, .k (.i (1))], none⟩,
    ⟨some 6, .pur .mov, [.t 17], none⟩]
def f55b : ACode :=
  .seq (.ops [
    ⟨some 4, .pur .mov, [.k (.i (0))], none⟩]) <|
  .seq (.ops [
    ⟨some 8, .pur (.buildSl 2 0 [.s ⟨#[]⟩, .i (0)] []), [], none⟩,
    ⟨some 5, .pur .mov, [.t 8], none⟩]) <|
  .seq (.seq (.ops [
    ⟨some 6, .pur .mov, [.k (.i (0))], none⟩]) <|
  .block 0 (.loop [9, 10, 11, 12, 13, 14, 15, 16, 17, 18, 19, 20, 21, 22, 23, 24, 25, 26, 27, 28, 29, 30, 31, 32, 33, 34, 35, 36, 37] [] f55_l0)) <|
  .seq (.ops [
    ⟨some 38, .pur .mov, [.t 0], none⟩,
    ⟨some 39, .pur .nilchk, [.t 38], none⟩,
    ⟨some 40, .pur (.faddr 1), [.t 39], none⟩,
    ⟨some 41, .ld none 1 false, [.t 40], none⟩,
    ⟨some 42, .pur .lenL, [.t 41], none⟩,
    ⟨some 43, .pur .mov, [.t 5], none⟩,
    ⟨some 44, .pur .lenL, [.t 43], none⟩,
    ⟨some 45, .pur (.bin .sub), [.t 42, .t 44], none⟩,
    ⟨some 7, .pur .mov, [.t 45], none⟩]) <|
  .seq (.ops [
    ⟨some 46, .pur .mov, [.t 0], none⟩,
    ⟨some 47, .pur .mov, [.t 5], none⟩,
    ⟨some 48, .pur .nilchk, [.t 46], none⟩,
    ⟨some 49, .pur (.faddr 1), [.t 48], none⟩,
    ⟨none, .st none 1, [.t 49, .t 47], none⟩]) <|
  .seq (.ops [
    ⟨some 50, .pur .mov, [.t 7], none⟩,
    ⟨some 4, .pur .mov, [.t 50], none⟩]) <|
  .ret
def f55 : AFunc := ⟨51, f55b, [.tmp 4]⟩

/- 56 (*sluiceway/sluicewayref13.Cache).Seen -/
def f56_l0 : ACode :=
  .seq (.seq (.ops [
    ⟨some 18, .pur .mov, [.t 10], none⟩,
    ⟨some 19, .pur .mov, [.t 0], none⟩,
    ⟨some 20, .pur .nilchk, [.t 19], none⟩,
    ⟨some 21, .pur (.faddr 1), [.t 20], none⟩,
    ⟨some 22, .ld none 1 false, [.t 21], none⟩,
    ⟨some 23, .pur .lenL, [.t 22], none⟩,
    ⟨some 24, .pur (.bin .lss), [.t 18, .t 23], none⟩]) <|
  .cond (.t 24) (.skip) (.exit 0)) <|
  .seq (.block 1 (.seq (.seq (.ops [
      ⟨some 27, .pur .mov, [.t 0], none⟩,
      ⟨some 28, .pur .nilchk, [.t 27], none⟩,
      ⟨some 29, .pur (.faddr 1), [.t 28], none⟩,
      ⟨some 30, .ld none 1 false, [.t 29], none⟩,
      ⟨some 31, .pur .mov, [.t 10], none⟩,
      ⟨some 32, .pur (.iaddr 2), [.t 30, .t 31], none⟩,
      ⟨some 33, .pur (.faddr 0), [.t 32], none⟩,
      ⟨some 34, .ld none 1 false, [.t 33], none⟩,
      ⟨some 35, .pur .mov, [.t 1], none⟩,
      ⟨some 36, .pur (.bin .eql), [.t 34, .t 35], none⟩]) <|
    .cond (.t 36) (.seq (.ops [
        ⟨some 37, .pur .mov, [.t 0], none⟩,
        ⟨some 38, .pur .nilchk, [.t 37], none⟩,
        ⟨some 39, .pur (.faddr 1), [.t 38], none⟩,
        ⟨some 40, .ld none 1 false, [.t 39], none⟩,
        ⟨some 41, .pur .mov, [.t 10], none⟩,
        ⟨some 42, .pur .mov, [.t 0], none⟩,
        ⟨some 43, .pur .nilchk, [.t 42], none⟩,
        ⟨some 44, .pur (.faddr 1), [.t 43], none⟩,
        ⟨some 45, .ld none 1 false, [.t 44], none⟩,
        ⟨some 46, .pur .mov, [.t 10], none⟩,
        ⟨some 47, .pur (.iaddr 2), [.t 45, .t 46], none⟩,
        ⟨some 48, .pur (.faddr 1), [.t 47], none⟩,
        ⟨some 49, .ld none 1 false, [.t 48], none⟩,
        ⟨some 50, .pur .mov, [.t 2], none⟩,
        ⟨some 51, .pur .max, [.t 49, .t 50], none⟩,
        ⟨some 52, .pur (.iaddr 2), [.t 40, .t 41], none⟩,
        ⟨some 53, .pur (.faddr 1), [.t 52], none⟩,
        ⟨none, .st none 1, [.t 53, .t 51], none⟩]) <|
      .seq (.ops [
        ⟨some 8, .pur .mov, [.k (.i (9))], none⟩]) <|
      .ret) (.skip)) <|
    .seq (.ops [
      ⟨some 54, .pur .mov, [.t 0], none⟩,
      ⟨some 55, .pur .nilchk, [.t 54], none⟩,
      ⟨some 56, .pur (.faddr 1), [.t 55], none⟩,
      ⟨some 57, .ld none 1 false, [.t 56], none⟩,
      ⟨some 58, .pur .mov, [.t 10], none⟩,
      ⟨some 59, .pur (.iaddr 2), [.t 57, .t 58], none⟩,
      ⟨some 60, .pur (.faddr 0), [.t 59], none⟩,
      ⟨some 61, .ld none 1 false, [.t 60], none⟩,
      ⟨some 62, .pur .mov, [.t 1], none⟩,
      ⟨some 63, .pur (.bin .lss), [.t 61, .t 62], none⟩]) <|
    .cond (.t 63) (.ops [
        ⟨some 64, .pur .mov, [.t 10], none⟩,
        ⟨some 65, .pur (.bin .add), [.t 64, .k (.i (1))], none⟩,
        ⟨some 9, .pur .mov, [.t 65], none⟩]) (.skip))) <|
  .ops [
    ⟨some 25, .pur .mov, [.t 10], none⟩,
    ⟨some 26, .pur (.bin .add), [.t 25, .k (.i (1))], none⟩,
    ⟨some 10, .pur .mov, [.t 26], none⟩]
def f56b : ACode :=
  .seq (.ops [
    ⟨some 8, .pur .mov, [.k (.i (0))], none⟩]) <|
  .seq (.seq (.ops [
    ⟨some 12, .pur .mov, [.t 2], none⟩,
    ⟨some 13, .pur .mov, [.t 3], none⟩,
    ⟨some 14, .pur (.bin .leq), [.t 12, .t 13], none⟩]) <|
  .cond (.t 14) (.seq (.ops [
      ⟨some 8, .pur .mov, [.k (.i (5))], none⟩]) <|
    .ret) (.skip)) <|
  .seq (.ops [
    ⟨some 15, .pur .mov, [.t 0], none⟩,
    ⟨some 16, .pur .mov, [.t 3], none⟩,
    ⟨some 17, .call 55, [.t 15, .t 16], none⟩]) <|
  .seq (.ops [
    ⟨some 9, .pur .mov, [.k (.i (0))], none⟩]) <|
  .seq (.seq (.ops [
    ⟨some 10, .pur .mov, [.k (.i (0))], none⟩]) <|
  .block 0 (.loop [8, 18, 19, 20, 21, 22, 23, 24, 25, 26, 27, 28, 29, 30, 31, 32, 33, 34, 35, 36, 37, 38, 39, 40, 41, 42, 43, 44, 45, 46, 47, 48, 49, 50, 51, 52, 53, 54, 55, 56, 57, 58, 59, 60, 61, 62, 63, 64, 65] [] f56_l0)) <|
  .seq (.seq (.ops [
    ⟨some 66, .pur .mov, [.t 0], none⟩,
    ⟨some 67, .pur .nilchk, [.t 66], none⟩,
    ⟨some 68, .pur (.faddr 1), [.t 67], none⟩,
    ⟨some 69, .ld none 1 false, [.t 68], none⟩,
    ⟨some 70, .pur .lenL, [.t 69], none⟩,
    ⟨some 71, .pur .mov, [.t 0], none⟩,
    ⟨some 72, .pur .nilchk, [.t 71], none⟩,
    ⟨some 73, .pur (.faddr 0), [.t 72], none⟩,
    ⟨some 74, .ld none 1 false, [.t 73], none⟩,
    ⟨some 75, .pur (.bin .geq), [.t 70, .t 74], none⟩]) <|
  .cond (.t 75) (.seq (.ops [
      ⟨some 8, .pur .mov, [.k (.i (10))], none⟩]) <|
    .ret) (.skip)) <|
  .seq (.ops [
    ⟨some 76, .pur (.buildSl 2 0 [.s ⟨#[]⟩, .i (0)] []), [], none⟩,
    ⟨some 77, .pur .mov, [.t 0], none⟩,
    ⟨some 78, .pur .nilchk, [.t 77], none⟩,
    ⟨some 79, .pur (.faddr 1), [.t 78], none⟩,
    ⟨some 80, .ld none 1 false, [.t 79], none⟩,
    ⟨some 81, .pur .mov, [.t 9], none⟩,
    ⟨some 82, .pur (.sliceL 2 false true false), [.t 80, .t 81], none⟩,
    ⟨some 83, .append 2 24, [.t 76, .t 82], none⟩,
    ⟨some 84, .pur .mov, [.t 1], none⟩,
    ⟨some 85, .pur .mov, [.t 2], none⟩,
    ⟨some 86, .pur (.build [.s ⟨#[]⟩, .i (0)] [(0, 1), (1, 1)]), [.t 84, .t 85], none⟩,
    ⟨some 87, .pur (.buildSl 2 1 [.s ⟨#[]⟩, .i (0)] [0]), [.t 86], none⟩,
    ⟨some 88, .append 2 24, [.t 83, .t 87], none⟩,
    ⟨some 11, .pur .mov, [.t 88], none⟩]) <|
  .seq (.ops [
    ⟨some 89, .pur .mov, [.t 0], none⟩,
    ⟨some 90, .pur .mov, [.t 11], none⟩,
    ⟨some 91, .pur .mov, [.t 0], none⟩,
    ⟨some 92, .pur .nilchk, [.t 91], none⟩,
    ⟨some 93, .pur (.faddr 1), [.t 92], none⟩,
    ⟨some 94, .ld none 1 false, [.t 93], none⟩,
    ⟨some 95, .pur .mov, [.t 9], none⟩,
    ⟨some 96, .pur (.sliceL 2 true false false), [.t 94, .t 95], none⟩,
    ⟨some 97, .append 2 24, [.t 90, .t 96], none⟩,
    ⟨some 98, .pur .nilchk, [.t 89], none⟩,
    ⟨some 99, .pur (.faddr 1), [.t 98], none⟩,
    ⟨none, .st none 1, [.t 99, .t 97], none⟩]) <|
  .seq (.ops [
    ⟨some 8, .pur .mov, [.k (.i (0))], none⟩]) <|
  .ret
def f56 : AFunc := ⟨100, f56b, [.tmp 8]⟩

/- 57 sluiceway/sluicewaylaw13.same -/
def f57_l0 : ACode :=
  .seq (.seq (.ops [
    ⟨some 27, .pur .mov, [.t 6], none⟩,
    ⟨some 28, .pur .mov, [.t 5], none⟩,
    ⟨some 29, .pur .lenL, [.t 28], none⟩,
    ⟨some 30, .pur (.bin .lss), [.t 27, .t 29], none⟩]) <|
  .cond (.t 30) (.skip) (.exit 0)) <|
  .seq (.block 1 (.seq (.ops [
      ⟨some 33, .pur .mov, [.t 5], none⟩,
      ⟨some 34, .pur .mov, [.t 6], none⟩,
      ⟨some 35, .pur (.iaddr 1), [.t 33, .t 34], none⟩,
      ⟨some 36, .ld none 1 false, [.t 35], none⟩,
      ⟨some 37, .pur .mov, [.t 1], none⟩,
      ⟨some 38, .pur .nilchk, [.t 37], none⟩,
      ⟨some 39, .pur (.faddr 1), [.t 38], none⟩,
      ⟨some 40, .ld none 1 false, [.t 39], none⟩,
      ⟨some 41, .pur .mov, [.t 6], none⟩,
      ⟨some 42, .pur (.iaddr 2), [.t 40, .t 41], none⟩,
      ⟨some 43, .pur (.faddr 0), [.t 42], none⟩,
      ⟨some 44, .ld none 1 false, [.t 43], none⟩,
      ⟨some 45, .pur (.bin .neq), [.t 36, .t 44], none⟩]) <|
    .cond (.t 45) (.seq (.ops [
        ⟨some 4, .pur .mov, [.k (.b false)], none⟩]) <|
      .ret) (.skip))) <|
  .ops [
    ⟨some 31, .pur .mov, [.t 6], none⟩,
    ⟨some 32, .pur (.bin .add), [.t 31, .k (.i (1))], none⟩,
    ⟨some 6, .pur .mov, [.t 32], none⟩]
def f57b : ACode :=
  .seq (.ops [
    ⟨some 4, .pur .mov, [.k (.b false)], none⟩]) <|
  .seq (.ops [
    ⟨some 7, .pur .mov, [.t 0], none⟩,
    ⟨some 8, .call 58, [.t 7], none⟩,
    ⟨some 5, .pur .mov, [.t 8], none⟩]) <|
  .seq (.seq (.ops [
    ⟨some 9, .pur .mov, [.t 0], none⟩,
    ⟨some 10, .call 52, [.t 9], none⟩,
    ⟨some 11, .pur .mov, [.t 1], none⟩,
    ⟨some 12, .pur .nilchk, [.t 11], none⟩,
    ⟨some 13, .pur (.faddr 1), [.t 12], none⟩,
    ⟨some 14, .ld none 1 false, [.t 13], none⟩,
    ⟨some 15, .pur .lenL, [.t 14], none⟩,
    ⟨some 16, .pur (.bin .neq), [.t 10, .t 15], none⟩,
    ⟨some 17, .pur .mov, [.t 16], none⟩,
    ⟨some 18, .pur .mov, [.t 5], some (17, false)⟩,
    ⟨some 19, .pur .lenL, [.t 18], some (17, false)⟩,
    ⟨some 20, .pur .mov, [.t 1], some (17, false)⟩,
    ⟨some 21, .pur .nilchk, [.t 20], some (17, false)⟩,
    ⟨some 22, .pur (.faddr 1), [.t 21], some (17, false)⟩,
    ⟨some 23, .ld none 1 false, [.t 22], some (17, false)⟩,
    ⟨some 24, .pur .lenL, [.t 23], some (17, false)⟩,
    ⟨some 25, .pur (.bin .neq), [.t 19, .t 24], some (17, false)⟩,
    ⟨some 26, .pur .pick, [.t 17, .k (.b true), .t 25], none⟩]) <|
  .cond (.t 26) (.seq (.ops [
      ⟨some 4, .pur .mov, [.k (.b false)], none⟩]) <|
    .ret) (.skip)) <|
  .seq (.seq (.ops [
    ⟨some 6, .pur .mov, [.k (.i (0))], none⟩]) <|
  .block 0 (.loop [4, 27, 28, 29, 30, 31, 32, 33, 34, 35, 36, 37, 38, 39, 40, 41, 42, 43, 44, 45] [] f57_l0)) <|
  .seq (.ops [
    ⟨some 4, .pur .mov, [.k (.b true)], none⟩]) <|
  .ret
def f57 : AFunc := ⟨46, f57b, [.tmp 4]⟩

/- 53 (*sluiceway/replay.Cache).Prune -/
def f53_l0 : ACode :=
  .seq (.ops [
    ⟨some 18, .nextM, [.t 17], none⟩,
    ⟨some 19, .pur (.extract 0), [.t 18], none⟩]) <|
  .seq (.cond (.t 19) (.skip) (.exit 0)) <|
  .block 1 (.seq (.ops [
      ⟨some 20, .entryM, [.t 17], none⟩,
      ⟨some 21, .pur (.extract 0), [.t 20], none⟩,
      ⟨some 22, .pur (.extract 1), [.t 20], none⟩,
      ⟨some 6, .pur .mov, [.t 21], none⟩,
      ⟨some 7, .pur .mov, [.t 22], none⟩]) <|
    .seq (.ops [
      ⟨some 23, .pur .mov, [.t 7], none⟩,
      ⟨some 24, .pur .mov, [.t 1], none⟩,
      ⟨some 25, .pur (.bin .leq), [.t 23, .t 24], none⟩]) <|
    .cond (.t 25) (.ops [
        ⟨some 26, .pur .mov, [.t 0], none⟩,
        ⟨some 27, .pur .nilchk, [.t 26], none⟩,
        ⟨some 28, .pur (.faddr 1), [.t 27], none⟩,
        ⟨some 29, .ld none 1 false, [.t 28], none⟩,
        ⟨some 30, .pur .mov, [.t 6], none⟩,
        ⟨none, .mapdel true, [.t 29, .t 30], none⟩]) (.skip))
def f53b : ACode :=
  .seq (.ops [
    ⟨some 4, .pur .mov, [.k (.i (0))], none⟩]) <|
  .seq (.ops [
    ⟨some 8, .pur .mov, [.t 0], none⟩,
    ⟨some 9, .pur .nilchk, [.t 8], none⟩,
    ⟨some 10, .pur (.faddr 1), [.t 9], none⟩,
    ⟨some 11, .ld none 1 false, [.t 10], none⟩,
    ⟨some 12, .lenM, [.t 11], none⟩,
    ⟨some 5, .pur .mov, [.t 12], none⟩]) <|
  .seq (.seq (.ops [
    ⟨some 13, .pur .mov, [.t 0], none⟩,
    ⟨some 14, .pur .nilchk, [.t 13], none⟩,
    ⟨some 15, .pur (.faddr 1), [.t 14], none⟩,
    ⟨some 16, .ld none 1 false, [.t 15], none⟩,
    ⟨some 17, .rangeM, [.t 16], none⟩]) <|
  .block 0 (.loop [6, 7, 18, 19, 20, 21, 22, 23, 24, 25, 26, 27, 28, 29, 30] [] f53_l0)) <|
  .seq (.ops [
    ⟨some 31, .pur .mov, [.t 5], none⟩,
    ⟨some 32, .pur .mov, [.t 0], none⟩,
    ⟨some 33, .pur .nilchk, [.t 32], none⟩,
    ⟨some 34, .pur (.faddr 1), [.t 33], none⟩,
    ⟨some 35, .ld none 1 false, [.t 34], none⟩,
    ⟨some 36, .lenM, [.t 35], none⟩,
    ⟨some 37, .pur (.bin .sub), [.t 31, .t 36], none⟩,
    ⟨some 4, .pur .mov, [.t 37], none⟩]) <|
  .ret
def f53 : AFunc := ⟨38, f53b, [.tmp 4]⟩

/- 58 (*sluiceway/replay.Cache).All -/
def f58_l0 : ACode :=
  .seq (.ops [
    ⟨some 10, .nextM, [.t 9], none⟩,
    ⟨some 11, .pur (.extract 0), [.t 10], none⟩]) <|
  .seq (.cond (.t 11) (.skip) (.exit 0)) <|
  .block 1 (.seq (.ops [
      ⟨some 12, .entryM, [.t 9], none⟩,
      ⟨some 13, .pur (.extract 0), [.t 12], none⟩,
      ⟨some 4, .pur .mov, [.t 13], none⟩]) <|
    .ops [
      ⟨some 14, .pur .mov, [.t 3], none⟩,
      ⟨some 15, .pur .mov, [.t 4], none⟩,
      ⟨some 16, .pur (.buildSl 1 1 [.s ⟨#[]⟩] [0]), [.t 15], none⟩,
      ⟨some 17, .append 1 16, [.t 14, .t 16], none⟩,
      ⟨some 3, .pur .mov, [.t 17], none⟩])
def f58b : ACode :=
  .seq (.ops [
    ⟨some 2, .pur .mov, [.k (.lst 0 true [])], none⟩]) <|
  .seq (.ops [
    ⟨some 3, .pur .mov, [.k (.lst 0 true [])], none⟩]) <|
  .seq (.seq (.ops [
    ⟨some 5, .pur .mov, [.t 0], none⟩,
    ⟨some 6, .pur .nilchk, [.t 5], none⟩,
    ⟨some 7, .pur (.faddr 1), [.t 6], none⟩,
    ⟨some 8, .ld none 1 false, [.t 7], none⟩,
    ⟨some 9, .rangeM, [.t 8], none⟩]) <|
  .block 0 (.loop [4, 10, 11, 12, 13, 14, 15, 16, 17] [] f58_l0)) <|
  .seq (.ops [
    ⟨some 18, .pur .mov, [.t 3], none⟩,
    ⟨some 19, .call 190, [.t 18], none⟩]) <|
  .seq (.ops [
    ⟨some 20, .pur .mov, [.t 3], none⟩,
    ⟨some 2, .pur .mov, [.t 20], none⟩]) <|
  .ret
def f58 : AFunc := ⟨21, f58b, [.tmp 2]⟩


end Abs
