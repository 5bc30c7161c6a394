/- The code of functions (printed by gen/Gen.lean). -/
import Derived.Test.YtgpcbcbmhlgekaaDoorE3
set_option linter.unusedVariables false
set_option linter.unusedSimpArgs false
set_option linter.unusedSectionVars false
namespace Abs
open Go
/- 20 sluiceway/sluicewaylaw14.CookieForged -/
def f20b : ACode :=
  .seq (.ops [
    ⟨some 4, .box .reg, [.t 0], none⟩,
    ⟨some 5, .box .reg, [.t 1], none⟩,
    ⟨some 7, .box .reg, [.t 3], none⟩,
    ⟨some 8, .pur .mov, [.k (.b false)], none⟩]) <|
  .seq (.ops [
    ⟨some 15, .call 107, [], none⟩,
    ⟨some 9, .pur .mov, [.t 15], none⟩]) <|
  .seq (.ops [
    ⟨some 16, .ld (some 5) 7 true, [.t 5], none⟩,
    ⟨some 17, .call 110, [.t 16], none⟩,
    ⟨none, .st (some 5) 7, [.t 5, .t 17], none⟩]) <|
  .seq (.seq (.ops [
    ⟨some 18, .ld (some 4) 3 true, [.t 4], none⟩,
    ⟨some 19, .call 108, [.t 18], none⟩,
    ⟨some 20, .pur (.un .not), [.t 19], none⟩,
    ⟨some 21, .pur .mov, [.t 20], none⟩,
    ⟨some 22, .pur (.faddr 3), [.t 5], some (21, false)⟩,
    ⟨some 23, .ld (some 5) 3 true, [.t 22], some (21, false)⟩,
    ⟨some 24, .call 108, [.t 23], some (21, false)⟩,
    ⟨some 25, .pur (.un .not), [.t 24], some (21, false)⟩,
    ⟨some 26, .pur .pick, [.t 21, .k (.b true), .t 25], none⟩,
    ⟨some 27, .pur .mov, [.t 26], none⟩,
    ⟨some 28, .ld (some 7) 3 true, [.t 7], some (27, false)⟩,
    ⟨some 29, .call 108, [.t 28], some (27, false)⟩,
    ⟨some 30, .pur (.un .not), [.t 29], some (27, false)⟩,
    ⟨some 31, .pur .pick, [.t 27, .k (.b true), .t 30], none⟩]) <|
  .cond (.t 31) (.seq (.ops [
      ⟨some 32, .pur .mov, [.t 9], none⟩,
      ⟨some 8, .pur .mov, [.t 32], none⟩]) <|
    .ret) (.skip)) <|
  .seq (.ops [
    ⟨some 33, .ld (some 4) 3 true, [.t 4], none⟩,
    ⟨some 34, .ld (some 5) 7 true, [.t 5], none⟩,
    ⟨some 35, .call 109, [.t 33, .t 34], none⟩,
    ⟨some 10, .alloc .reg [.i (0), .s ⟨#[]⟩, .lst 0 true []], [], none⟩,
    ⟨none, .st (some 10) 3, [.t 10, .t 35], none⟩]) <|
  .seq (.seq (.ops [
    ⟨some 36, .pur (.faddr 2), [.t 10], none⟩,
    ⟨some 37, .ld (some 10) 1 false, [.t 36], none⟩,
    ⟨some 38, .pur .lenL, [.t 37], none⟩,
    ⟨some 39, .pur (.bin .neq), [.t 38, .k (.i (2))], none⟩,
    ⟨some 40, .pur .mov, [.t 39], none⟩,
    ⟨some 41, .pur (.faddr 2), [.t 10], some (40, false)⟩,
    ⟨some 42, .ld (some 10) 1 false, [.t 41], some (40, false)⟩,
    ⟨some 43, .pur (.iaddr 3), [.t 42, .k (.i (1))], some (40, false)⟩,
    ⟨some 44, .pur (.faddr 2), [.t 43], some (40, false)⟩,
    ⟨some 45, .ld none 1 false, [.t 44], some (40, false)⟩,
    ⟨some 46, .pur .lenL, [.t 45], some (40, false)⟩,
    ⟨some 47, .pur (.bin .neq), [.t 46, .k (.i (6))], some (40, false)⟩,
    ⟨some 48, .pur .pick, [.t 40, .k (.b true), .t 47], none⟩]) <|
  .cond (.t 48) (.seq (.ops [
      ⟨some 49, .pur .mov, [.t 9], none⟩,
      ⟨some 50, .pur .mov, [.t 49], none⟩,
      ⟨some 51, .pur (.faddr 0), [.t 10], some (50, true)⟩,
      ⟨some 52, .ld (some 10) 1 false, [.t 51], some (50, true)⟩,
      ⟨some 53, .pur (.bin .eql), [.t 52, .k (.i (0))], some (50, true)⟩,
      ⟨some 54, .pur .pick, [.t 50, .t 53, .k (.b false)], none⟩,
      ⟨some 8, .pur .mov, [.t 54], none⟩]) <|
    .ret) (.skip)) <|
  .seq (.ops [
    ⟨some 55, .pur (.buildSl 3 0 [.i (0), .s ⟨#[]⟩, .lst 0 true []] []), [], none⟩,
    ⟨some 56, .pur (.faddr 2), [.t 10], none⟩,
    ⟨some 57, .ld (some 10) 1 false, [.t 56], none⟩,
    ⟨some 58, .pur (.iaddr 3), [.t 57, .k (.i (1))], none⟩,
    ⟨some 59, .pur (.faddr 2), [.t 58], none⟩,
    ⟨some 60, .ld none 1 false, [.t 59], none⟩,
    ⟨some 61, .append 3 48, [.t 55, .t 60], none⟩,
    ⟨some 11, .pur .mov, [.t 61], none⟩]) <|
  .seq (.ops [
    ⟨some 62, .pur .mov, [.t 11], none⟩,
    ⟨some 63, .pur .mov, [.t 2], none⟩,
    ⟨some 64, .pur (.bin .and), [.t 63, .k (.i (65535))], none⟩,
    ⟨some 65, .pur (.bin .rem), [.t 64, .k (.i (6))], none⟩,
    ⟨some 66, .ld (some 7) 3 true, [.t 7], none⟩,
    ⟨some 67, .pur (.iaddr 3), [.t 62, .t 65], none⟩,
    ⟨none, .st none 3, [.t 67, .t 66], none⟩]) <|
  .seq (.ops [
    ⟨some 68, .pur (.faddr 2), [.t 10], none⟩,
    ⟨some 69, .ld (some 10) 1 false, [.t 68], none⟩,
    ⟨some 70, .pur (.iaddr 3), [.t 69, .k (.i (0))], none⟩,
    ⟨some 71, .ld none 3 true, [.t 70], none⟩,
    ⟨some 72, .tell, [.t 11], none⟩,
    ⟨some 73, .pur (.build [.i (0), .s ⟨#[]⟩, .lst 0 true []] [(0, 1), (2, 1)]), [.k (.i (3)), .t 72], none⟩,
    ⟨some 74, .pur (.buildSl 3 2 [.i (0), .s ⟨#[]⟩, .lst 0 true []] [0, 1]), [.t 71, .t 73], none⟩,
    ⟨some 75, .pur (.build [.i (0), .s ⟨#[]⟩, .lst 0 true []] [(0, 1), (2, 1)]), [.k (.i (4)), .t 74], none⟩,
    ⟨some 12, .alloc .reg [.i (0), .s ⟨#[]⟩, .lst 0 true []], [], none⟩,
    ⟨none, .st (some 12) 3, [.t 12, .t 75], none⟩]) <|
  .seq (.ops [
    ⟨some 77, .ld (some 4) 3 true, [.t 4], none⟩,
    ⟨some 78, .ld (some 12) 3 true, [.t 12], none⟩,
    ⟨some 79, .call 112, [.t 77, .t 78, .k (.i (-9223372036854775808))], none⟩,
    ⟨some 76, .pur .mov, [.t 79], none⟩,
    ⟨some 80, .pur (.extract 0), [.t 76], none⟩,
    ⟨some 81, .pur (.extract 1), [.t 76], none⟩,
    ⟨some 13, .alloc .reg [.s ⟨#[]⟩, .s ⟨#[]⟩, .lst 0 true [], .i (0), .s ⟨#[]⟩, .lst 0 true [], .i (0)], [], none⟩,
    ⟨none, .st (some 13) 7, [.t 13, .t 80], none⟩,
    ⟨some 14, .pur .mov, [.t 81], none⟩]) <|
  .seq (.seq (.ops [
    ⟨some 82, .pur .mov, [.t 14], none⟩,
    ⟨some 83, .pur (.bin .neq), [.t 82, .k (.i (0))], none⟩]) <|
  .cond (.t 83) (.seq (.ops [
      ⟨some 84, .pur .mov, [.t 9], none⟩,
      ⟨some 85, .pur .mov, [.t 84], none⟩,
      ⟨some 86, .pur .mov, [.t 14], some (85, true)⟩,
      ⟨some 87, .pur (.bin .eql), [.t 86, .k (.i (2))], some (85, true)⟩,
      ⟨some 88, .pur .pick, [.t 85, .t 87, .k (.b false)], none⟩,
      ⟨some 89, .pur .mov, [.t 88], none⟩,
      ⟨some 90, .pur (.faddr 0), [.t 13], some (89, true)⟩,
      ⟨some 91, .ld (some 13) 1 false, [.t 90], some (89, true)⟩,
      ⟨some 92, .pur (.bin .eql), [.t 91, .k (.s ⟨#[]⟩)], some (89, true)⟩,
      ⟨some 93, .pur .pick, [.t 89, .t 92, .k (.b false)], none⟩,
      ⟨some 8, .pur .mov, [.t 93], none⟩]) <|
    .ret) (.skip)) <|
  .seq (.ops [
    ⟨some 94, .pur .mov, [.t 9], none⟩,
    ⟨some 95, .pur .mov, [.t 94], none⟩,
    ⟨some 96, .ld (some 4) 3 true, [.t 4], some (95, true)⟩,
    ⟨some 97, .ld (some 13) 7 true, [.t 13], some (95, true)⟩,
    ⟨some 98, .call 109, [.t 96, .t 97], some (95, true)⟩,
    ⟨some 99, .ld (some 12) 3 true, [.t 12], some (95, true)⟩,
    ⟨some 100, .call 118, [.t 98, .t 99], some (95, true)⟩,
    ⟨some 101, .pur .pick, [.t 95, .t 100, .k (.b false)], none⟩,
    ⟨some 8, .pur .mov, [.t 101], none⟩]) <|
  .ret
def f20 : AFunc := ⟨102, f20b, [.tmp 8]⟩
/- 107 sluiceway/sluicewaylaw14.shown -/
def f107b : ACode :=
  .seq (.ops [
    ⟨some 0, .pur .mov, [.k (.b false)], none⟩]) <|
  .seq (.ops [
    ⟨some 12, .call 122, [.k (.s ⟨#[107]⟩)], none⟩,
    ⟨some 1, .alloc .reg [.i (0), .s ⟨#[]⟩, .lst 0 true []], [], none⟩,
    ⟨none, .st (some 1) 3, [.t 1, .t 12], none⟩]) <|
  .seq (.ops [
    ⟨some 13, .call 122, [.k (.s ⟨#[120]⟩)], none⟩,
    ⟨some 14, .pur (.build [.s ⟨#[]⟩, .s ⟨#[]⟩, .lst 0 true [], .i (0), .s ⟨#[]⟩, .lst 0 true [], .i (0)] [(0, 1), (1, 1), (3, 3), (6, 1)]), [.k (.s ⟨#[97]⟩), .k (.s ⟨#[49]⟩), .t 13, .k (.i (9))], none⟩,
    ⟨some 2, .alloc .reg [.s ⟨#[]⟩, .s ⟨#[]⟩, .lst 0 true [], .i (0), .s ⟨#[]⟩, .lst 0 true [], .i (0)], [], none⟩,
    ⟨none, .st (some 2) 7, [.t 2, .t 14], none⟩]) <|
  .seq (.ops [
    ⟨some 15, .ld (some 1) 3 true, [.t 1], none⟩,
    ⟨some 16, .ld (some 2) 7 true, [.t 2], none⟩,
    ⟨some 17, .call 109, [.t 15, .t 16], none⟩,
    ⟨some 3, .alloc .reg [.i (0), .s ⟨#[]⟩, .lst 0 true []], [], none⟩,
    ⟨none, .st (some 3) 3, [.t 3, .t 17], none⟩]) <|
  .seq (.ops [
    ⟨some 19, .ld (some 1) 3 true, [.t 1], none⟩,
    ⟨some 20, .ld (some 3) 3 true, [.t 3], none⟩,
    ⟨some 21, .call 112, [.t 19, .t 20, .k (.i (9))], none⟩,
    ⟨some 18, .pur .mov, [.t 21], none⟩,
    ⟨some 22, .pur (.extract 0), [.t 18], none⟩,
    ⟨some 23, .pur (.extract 1), [.t 18], none⟩,
    ⟨some 4, .alloc .reg [.s ⟨#[]⟩, .s ⟨#[]⟩, .lst 0 true [], .i (0), .s ⟨#[]⟩, .lst 0 true [], .i (0)], [], none⟩,
    ⟨none, .st (some 4) 7, [.t 4, .t 22], none⟩,
    ⟨some 5, .pur .mov, [.t 23], none⟩]) <|
  .seq (.ops [
    ⟨some 25, .ld (some 1) 3 true, [.t 1], none⟩,
    ⟨some 26, .ld (some 3) 3 true, [.t 3], none⟩,
    ⟨some 27, .call 112, [.t 25, .t 26, .k (.i (10))], none⟩,
    ⟨some 24, .pur .mov, [.t 27], none⟩,
    ⟨some 28, .pur (.extract 0), [.t 24], none⟩,
    ⟨some 29, .pur (.extract 1), [.t 24], none⟩,
    ⟨some 6, .alloc .reg [.s ⟨#[]⟩, .s ⟨#[]⟩, .lst 0 true [], .i (0), .s ⟨#[]⟩, .lst 0 true [], .i (0)], [], none⟩,
    ⟨none, .st (some 6) 7, [.t 6, .t 28], none⟩,
    ⟨some 7, .pur .mov, [.t 29], none⟩]) <|
  .seq (.ops [
    ⟨some 31, .call 122, [.k (.s ⟨#[106]⟩)], none⟩,
    ⟨some 32, .ld (some 3) 3 true, [.t 3], none⟩,
    ⟨some 33, .call 112, [.t 31, .t 32, .k (.i (1))], none⟩,
    ⟨some 30, .pur .mov, [.t 33], none⟩,
    ⟨some 34, .pur (.extract 0), [.t 30], none⟩,
    ⟨some 35, .pur (.extract 1), [.t 30], none⟩,
    ⟨some 8, .alloc .reg [.s ⟨#[]⟩, .s ⟨#[]⟩, .lst 0 true [], .i (0), .s ⟨#[]⟩, .lst 0 true [], .i (0)], [], none⟩,
    ⟨none, .st (some 8) 7, [.t 8, .t 34], none⟩,
    ⟨some 9, .pur .mov, [.t 35], none⟩]) <|
  .seq (.ops [
    ⟨some 37, .ld (some 1) 3 true, [.t 1], none⟩,
    ⟨some 38, .ld (some 1) 3 true, [.t 1], none⟩,
    ⟨some 39, .call 112, [.t 37, .t 38, .k (.i (1))], none⟩,
    ⟨some 36, .pur .mov, [.t 39], none⟩,
    ⟨some 40, .pur (.extract 0), [.t 36], none⟩,
    ⟨some 41, .pur (.extract 1), [.t 36], none⟩,
    ⟨some 10, .alloc .reg [.s ⟨#[]⟩, .s ⟨#[]⟩, .lst 0 true [], .i (0), .s ⟨#[]⟩, .lst 0 true [], .i (0)], [], none⟩,
    ⟨none, .st (some 10) 7, [.t 10, .t 40], none⟩,
    ⟨some 11, .pur .mov, [.t 41], none⟩]) <|
  .seq (.ops [
    ⟨some 42, .ld (some 3) 3 true, [.t 3], none⟩,
    ⟨some 43, .call 121, [.t 42], none⟩,
    ⟨some 44, .pur (.bin .eql), [.t 43, .k (.s ⟨#[101, 40, 97, 49, 58, 107, 44, 112, 40, 100, 54, 58, 99, 111, 111, 107, 105, 101, 44, 100, 50, 58, 99, 97, 44, 100, 50, 58, 110, 49, 44, 112, 40, 41, 44, 97, 49, 58, 120, 44, 100, 50, 58, 117, 57, 41, 41]⟩)], none⟩,
    ⟨some 45, .pur .mov, [.t 44], none⟩,
    ⟨some 46, .ld (some 2) 7 true, [.t 2], some (45, true)⟩,
    ⟨some 47, .ld (some 4) 7 true, [.t 4], some (45, true)⟩,
    ⟨some 48, .call 115, [.t 46, .t 47], some (45, true)⟩,
    ⟨some 49, .pur .pick, [.t 45, .t 48, .k (.b false)], none⟩,
    ⟨some 50, .pur .mov, [.t 49], none⟩,
    ⟨some 51, .pur .mov, [.t 5], some (50, true)⟩,
    ⟨some 52, .pur (.bin .eql), [.t 51, .k (.i (0))], some (50, true)⟩,
    ⟨some 53, .pur .pick, [.t 50, .t 52, .k (.b false)], none⟩,
    ⟨some 54, .pur .mov, [.t 53], none⟩,
    ⟨some 55, .pur .mov, [.t 7], some (54, true)⟩,
    ⟨some 56, .pur (.bin .eql), [.t 55, .k (.i (5))], some (54, true)⟩,
    ⟨some 57, .pur .pick, [.t 54, .t 56, .k (.b false)], none⟩,
    ⟨some 58, .pur .mov, [.t 57], none⟩,
    ⟨some 59, .pur .mov, [.t 9], some (58, true)⟩,
    ⟨some 60, .pur (.bin .eql), [.t 59, .k (.i (4))], some (58, true)⟩,
    ⟨some 61, .pur .pick, [.t 58, .t 60, .k (.b false)], none⟩,
    ⟨some 62, .pur .mov, [.t 61], none⟩,
    ⟨some 63, .pur .mov, [.t 11], some (62, true)⟩,
    ⟨some 64, .pur (.bin .eql), [.t 63, .k (.i (2))], some (62, true)⟩,
    ⟨some 65, .pur .pick, [.t 62, .t 64, .k (.b false)], none⟩,
    ⟨some 0, .pur .mov, [.t 65], none⟩]) <|
  .ret
def f107 : AFunc := ⟨66, f107b, [.tmp 0]⟩
/- 108 sluiceway/sluicewaylaw14.small -/
def f108b : ACode :=
  .seq (.ops [
    ⟨some 1, .box .reg, [.t 0], none⟩,
    ⟨some 2, .pur .mov, [.k (.b false)], none⟩]) <|
  .seq (.ops [
    ⟨some 3, .ld (some 1) 3 true, [.t 1], none⟩,
    ⟨some 4, .call 209, [.t 3], none⟩,
    ⟨some 5, .pur (.bin .leq), [.t 4, .k (.i (60))], none⟩,
    ⟨some 2, .pur .mov, [.t 5], none⟩]) <|
  .ret
def f108 : AFunc := ⟨6, f108b, [.tmp 2]⟩
/- 109 sluiceway/cookie.Seal -/
def f109_l0 : ACode :=
  .seq (.ops [
    ⟨some 23, .pur (.bin .lss), [.t 22, .t 21], none⟩]) <|
  .seq (.cond (.t 23) (.skip) (.exit 0)) <|
  .seq (.block 1 (.seq (.ops [
      ⟨some 24, .pur (.iaddr 1), [.t 20, .t 22], none⟩,
      ⟨some 25, .ld none 1 false, [.t 24], none⟩,
      ⟨some 7, .pur .mov, [.t 25], none⟩]) <|
    .ops [
      ⟨some 26, .pur .mov, [.t 5], none⟩,
      ⟨some 27, .pur .mov, [.t 7], none⟩,
      ⟨some 28, .pur (.bin .add), [.k (.s ⟨#[100]⟩), .t 27], none⟩,
      ⟨some 29, .call 192, [.t 28], none⟩,
      ⟨some 30, .pur (.buildSl 3 1 [.i (0), .s ⟨#[]⟩, .lst 0 true []] [0]), [.t 29], none⟩,
      ⟨some 31, .append 3 48, [.t 26, .t 30], none⟩,
      ⟨some 5, .pur .mov, [.t 31], none⟩])) <|
  .ops [
    ⟨some 32, .pur (.bin .add), [.t 22, .k (.i (1))], none⟩,
    ⟨some 22, .pur .mov, [.t 32], none⟩]
def f109b : ACode :=
  .seq (.ops [
    ⟨some 2, .box .reg, [.t 0], none⟩,
    ⟨some 3, .box .reg, [.t 1], none⟩,
    ⟨some 4, .alloc .reg [.i (0), .s ⟨#[]⟩, .lst 0 true []], [], none⟩]) <|
  .seq (.seq (.ops [
    ⟨some 9, .ld (some 2) 3 true, [.t 2], none⟩,
    ⟨some 10, .call 210, [.t 9], none⟩,
    ⟨some 11, .pur (.un .not), [.t 10], none⟩,
    ⟨some 12, .pur .mov, [.t 11], none⟩,
    ⟨some 13, .pur (.faddr 3), [.t 3], some (12, false)⟩,
    ⟨some 14, .ld (some 3) 3 true, [.t 13], some (12, false)⟩,
    ⟨some 15, .call 210, [.t 14], some (12, false)⟩,
    ⟨some 16, .pur (.un .not), [.t 15], some (12, false)⟩,
    ⟨some 17, .pur .pick, [.t 12, .k (.b true), .t 16], none⟩]) <|
  .cond (.t 17) (.seq (.ops [
      ⟨some 18, .pur (.build [.i (0), .s ⟨#[]⟩, .lst 0 true []] []), [], none⟩,
      ⟨none, .st (some 4) 3, [.t 4, .t 18], none⟩]) <|
    .ret) (.skip)) <|
  .seq (.ops [
    ⟨some 5, .pur .mov, [.k (.lst 0 true [])], none⟩]) <|
  .seq (.seq (.ops [
    ⟨some 19, .pur (.faddr 2), [.t 3], none⟩,
    ⟨some 20, .ld (some 3) 1 false, [.t 19], none⟩,
    ⟨some 21, .pur .lenL, [.t 20], none⟩,
    ⟨some 22, .pur .mov, [.k (.i (0))], none⟩]) <|
  .block 0 (.loop [7, 23, 24, 25, 26, 27, 28, 29, 30, 31, 32] [] f109_l0)) <|
  .seq (.ops [
    ⟨some 33, .pur (.faddr 6), [.t 3], none⟩,
    ⟨some 34, .ld (some 3) 1 false, [.t 33], none⟩,
    ⟨some 35, .call 193, [.t 34], none⟩,
    ⟨some 36, .pur (.bin .add), [.k (.s ⟨#[117]⟩), .t 35], none⟩,
    ⟨some 37, .call 192, [.t 36], none⟩,
    ⟨some 8, .alloc .reg [.i (0), .s ⟨#[]⟩, .lst 0 true []], [], none⟩,
    ⟨none, .st (some 8) 3, [.t 8, .t 37], none⟩]) <|
  .seq (.ops [
    ⟨some 38, .ld (some 2) 3 true, [.t 2], none⟩,
    ⟨some 39, .call 192, [.k (.s ⟨#[99, 111, 111, 107, 105, 101]⟩)], none⟩,
    ⟨some 40, .pur (.faddr 0), [.t 3], none⟩,
    ⟨some 41, .ld (some 3) 1 false, [.t 40], none⟩,
    ⟨some 42, .pur (.bin .add), [.k (.s ⟨#[99]⟩), .t 41], none⟩,
    ⟨some 43, .call 192, [.t 42], none⟩,
    ⟨some 44, .pur (.faddr 1), [.t 3], none⟩,
    ⟨some 45, .ld (some 3) 1 false, [.t 44], none⟩,
    ⟨some 46, .pur (.bin .add), [.k (.s ⟨#[110]⟩), .t 45], none⟩,
    ⟨some 47, .call 192, [.t 46], none⟩,
    ⟨some 48, .pur .mov, [.t 5], none⟩,
    ⟨some 49, .call 126, [.t 48], none⟩,
    ⟨some 50, .pur (.faddr 3), [.t 3], none⟩,
    ⟨some 51, .ld (some 3) 3 true, [.t 50], none⟩,
    ⟨some 52, .ld (some 8) 3 true, [.t 8], none⟩,
    ⟨some 53, .pur (.buildSl 3 6 [.i (0), .s ⟨#[]⟩, .lst 0 true []] [0, 1, 2, 3, 4, 5]), [.t 39, .t 43, .t 47, .t 49, .t 51, .t 52], none⟩,
    ⟨some 54, .call 126, [.t 53], none⟩,
    ⟨some 55, .call 128, [.t 38, .t 54], none⟩,
    ⟨none, .st (some 4) 3, [.t 4, .t 55], none⟩]) <|
  .ret
def f109 : AFunc := ⟨56, f109b, [.cell 4 3 true]⟩
/- 110 sluiceway/sluicewaylaw14.few -/
def f110b : ACode :=
  .seq (.ops [
    ⟨some 1, .box .reg, [.t 0], none⟩,
    ⟨some 2, .alloc .reg [.s ⟨#[]⟩, .s ⟨#[]⟩, .lst 0 true [], .i (0), .s ⟨#[]⟩, .lst 0 true [], .i (0)], [], none⟩]) <|
  .seq (.ops [
    ⟨some 3, .pur (.buildSl 1 0 [.s ⟨#[]⟩] []), [], none⟩,
    ⟨some 4, .pur (.faddr 2), [.t 1], none⟩,
    ⟨some 5, .ld (some 1) 1 false, [.t 4], none⟩,
    ⟨some 6, .pur (.faddr 2), [.t 1], none⟩,
    ⟨some 7, .ld (some 1) 1 false, [.t 6], none⟩,
    ⟨some 8, .pur .lenL, [.t 7], none⟩,
    ⟨some 9, .pur .min, [.t 8, .k (.i (20))], none⟩,
    ⟨some 10, .pur (.sliceL 1 false true false), [.t 5, .t 9], none⟩,
    ⟨some 11, .append 1 16, [.t 3, .t 10], none⟩,
    ⟨some 12, .pur (.faddr 2), [.t 1], none⟩,
    ⟨none, .st (some 1) 1, [.t 12, .t 11], none⟩]) <|
  .seq (.ops [
    ⟨some 13, .ld (some 1) 7 true, [.t 1], none⟩,
    ⟨none, .st (some 2) 7, [.t 2, .t 13], none⟩]) <|
  .ret
def f110 : AFunc := ⟨14, f110b, [.cell 2 7 true]⟩
/- 112 sluiceway/cookie.Open -/
def f112_l0 : ACode :=
  .seq (.ops [
    ⟨some 43, .pur (.bin .lss), [.t 42, .t 41], none⟩]) <|
  .seq (.cond (.t 43) (.skip) (.exit 0)) <|
  .seq (.block 1 (.seq (.ops [
      ⟨some 44, .pur (.iaddr 1), [.t 40, .t 42], none⟩,
      ⟨some 45, .ld none 1 false, [.t 44], none⟩,
      ⟨some 11, .pur .mov, [.t 45], none⟩]) <|
    .ops [
      ⟨some 46, .pur .mov, [.t 11], none⟩,
      ⟨some 47, .ld (some 8) 3 true, [.t 8], none⟩,
      ⟨some 48, .callv, [.t 46, .t 47, .t 9], none⟩])) <|
  .ops [
    ⟨some 49, .pur (.bin .add), [.t 42, .k (.i (1))], none⟩,
    ⟨some 42, .pur .mov, [.t 49], none⟩]
def f112b : ACode :=
  .seq (.ops [
    ⟨some 3, .box .reg, [.t 0], none⟩,
    ⟨some 4, .box .reg, [.t 1], none⟩,
    ⟨some 6, .alloc .reg [.s ⟨#[]⟩, .s ⟨#[]⟩, .lst 0 true [], .i (0), .s ⟨#[]⟩, .lst 0 true [], .i (0)], [], none⟩,
    ⟨some 7, .pur .mov, [.k (.i (0))], none⟩]) <|
  .seq (.seq (.ops [
    ⟨some 12, .ld (some 4) 3 true, [.t 4], none⟩,
    ⟨some 13, .call 116, [.t 12], none⟩,
    ⟨some 14, .pur (.un .not), [.t 13], none⟩,
    ⟨some 15, .pur .mov, [.t 14], none⟩,
    ⟨some 16, .pur (.faddr 0), [.t 4], some (15, false)⟩,
    ⟨some 17, .ld (some 4) 1 false, [.t 16], some (15, false)⟩,
    ⟨some 18, .pur (.bin .neq), [.t 17, .k (.i (4))], some (15, false)⟩,
    ⟨some 19, .pur .pick, [.t 15, .k (.b true), .t 18], none⟩]) <|
  .cond (.t 19) (.seq (.ops [
      ⟨some 20, .pur (.build [.s ⟨#[]⟩, .s ⟨#[]⟩, .lst 0 true [], .i (0), .s ⟨#[]⟩, .lst 0 true [], .i (0)] []), [], none⟩,
      ⟨none, .st (some 6) 7, [.t 6, .t 20], none⟩,
      ⟨some 7, .pur .mov, [.k (.i (2))], none⟩]) <|
    .ret) (.skip)) <|
  .seq (.seq (.ops [
    ⟨some 21, .pur (.faddr 2), [.t 4], none⟩,
    ⟨some 22, .ld (some 4) 1 false, [.t 21], none⟩,
    ⟨some 23, .pur (.iaddr 3), [.t 22, .k (.i (0))], none⟩,
    ⟨some 24, .ld none 3 true, [.t 23], none⟩,
    ⟨some 25, .ld (some 3) 3 true, [.t 3], none⟩,
    ⟨some 26, .call 118, [.t 24, .t 25], none⟩,
    ⟨some 27, .pur (.un .not), [.t 26], none⟩]) <|
  .cond (.t 27) (.seq (.ops [
      ⟨some 28, .pur (.build [.s ⟨#[]⟩, .s ⟨#[]⟩, .lst 0 true [], .i (0), .s ⟨#[]⟩, .lst 0 true [], .i (0)] []), [], none⟩,
      ⟨none, .st (some 6) 7, [.t 6, .t 28], none⟩,
      ⟨some 7, .pur .mov, [.k (.i (4))], none⟩]) <|
    .ret) (.skip)) <|
  .seq (.ops [
    ⟨some 29, .pur (.faddr 2), [.t 4], none⟩,
    ⟨some 30, .ld (some 4) 1 false, [.t 29], none⟩,
    ⟨some 31, .pur (.iaddr 3), [.t 30, .k (.i (1))], none⟩,
    ⟨some 32, .ld none 3 true, [.t 31], none⟩,
    ⟨some 33, .pur (.build [.i (0), .s ⟨#[]⟩, .lst 0 true []] [(0, 3)]), [.t 32], none⟩,
    ⟨some 8, .alloc .reg [.i (0), .s ⟨#[]⟩, .lst 0 true []], [], none⟩,
    ⟨none, .st (some 8) 3, [.t 8, .t 33], none⟩]) <|
  .seq (.seq (.ops [
    ⟨some 34, .pur (.faddr 0), [.t 8], none⟩,
    ⟨some 35, .pur (.faddr 2), [.t 34], none⟩,
    ⟨some 36, .ld (some 8) 1 false, [.t 35], none⟩,
    ⟨some 37, .pur .lenL, [.t 36], none⟩,
    ⟨some 38, .pur (.bin .neq), [.t 37, .k (.i (6))], none⟩]) <|
  .cond (.t 38) (.seq (.ops [
      ⟨some 39, .pur (.build [.s ⟨#[]⟩, .s ⟨#[]⟩, .lst 0 true [], .i (0), .s ⟨#[]⟩, .lst 0 true [], .i (0)] []), [], none⟩,
      ⟨none, .st (some 6) 7, [.t 6, .t 39], none⟩,
      ⟨some 7, .pur .mov, [.k (.i (2))], none⟩]) <|
    .ret) (.skip)) <|
  .seq (.ops [
    ⟨some 9, .alloc .heap [.s ⟨#[]⟩, .s ⟨#[]⟩, .lst 0 true [], .i (0), .s ⟨#[]⟩, .lst 0 true [], .i (0)], [], none⟩]) <|
  .seq (.seq (.ops [
    ⟨some 40, .pur (.buildSl 1 5 [.sc .nilFunc] [0, 1, 2, 3, 4]), [.k (.fn 214 [] []), .k (.fn 215 [] []), .k (.fn 216 [] []), .k (.fn 217 [] []), .k (.fn 218 [] [])], none⟩,
    ⟨some 41, .pur .lenL, [.t 40], none⟩,
    ⟨some 42, .pur .mov, [.k (.i (0))], none⟩]) <|
  .block 0 (.loop [11, 43, 44, 45, 46, 47, 48, 49] [] f112_l0)) <|
  .seq (.seq (.ops [
    ⟨some 50, .ld (some 3) 3 true, [.t 3], none⟩,
    ⟨some 51, .ld none 7 true, [.t 9], none⟩,
    ⟨some 52, .call 109, [.t 50, .t 51], none⟩,
    ⟨some 53, .ld (some 4) 3 true, [.t 4], none⟩,
    ⟨some 54, .call 118, [.t 52, .t 53], none⟩,
    ⟨some 55, .pur (.un .not), [.t 54], none⟩]) <|
  .cond (.t 55) (.seq (.ops [
      ⟨some 56, .pur (.build [.s ⟨#[]⟩, .s ⟨#[]⟩, .lst 0 true [], .i (0), .s ⟨#[]⟩, .lst 0 true [], .i (0)] []), [], none⟩,
      ⟨none, .st (some 6) 7, [.t 6, .t 56], none⟩,
      ⟨some 7, .pur .mov, [.k (.i (2))], none⟩]) <|
    .ret) (.skip)) <|
  .seq (.seq (.ops [
    ⟨some 57, .pur .mov, [.t 2], none⟩,
    ⟨some 58, .pur (.faddr 6), [.t 9], none⟩,
    ⟨some 59, .ld none 1 false, [.t 58], none⟩,
    ⟨some 60, .pur (.bin .gtr), [.t 57, .t 59], none⟩]) <|
  .cond (.t 60) (.seq (.ops [
      ⟨some 61, .pur (.build [.s ⟨#[]⟩, .s ⟨#[]⟩, .lst 0 true [], .i (0), .s ⟨#[]⟩, .lst 0 true [], .i (0)] []), [], none⟩,
      ⟨none, .st (some 6) 7, [.t 6, .t 61], none⟩,
      ⟨some 7, .pur .mov, [.k (.i (5))], none⟩]) <|
    .ret) (.skip)) <|
  .seq (.ops [
    ⟨some 62, .ld none 7 true, [.t 9], none⟩,
    ⟨none, .st (some 6) 7, [.t 6, .t 62], none⟩,
    ⟨some 7, .pur .mov, [.k (.i (0))], none⟩]) <|
  .ret
def f112 : AFunc := ⟨63, f112b, [.cell 6 7 true, .tmp 7]⟩
/- 114 sluiceway/sluicewayref07.Same -/
def f114_l0 : ACode :=
  .seq (.seq (.ops [
    ⟨some 28, .pur .mov, [.t 5], none⟩,
    ⟨some 29, .pur (.faddr 2), [.t 2], none⟩,
    ⟨some 30, .ld (some 2) 1 false, [.t 29], none⟩,
    ⟨some 31, .pur .lenL, [.t 30], none⟩,
    ⟨some 32, .pur (.bin .lss), [.t 28, .t 31], none⟩]) <|
  .cond (.t 32) (.skip) (.exit 0)) <|
  .seq (.block 1 (.seq (.ops [
      ⟨some 35, .pur (.faddr 2), [.t 2], none⟩,
      ⟨some 36, .ld (some 2) 1 false, [.t 35], none⟩,
      ⟨some 37, .pur .mov, [.t 5], none⟩,
      ⟨some 38, .pur (.iaddr 3), [.t 36, .t 37], none⟩,
      ⟨some 39, .ld none 3 true, [.t 38], none⟩,
      ⟨some 40, .pur (.faddr 2), [.t 3], none⟩,
      ⟨some 41, .ld (some 3) 1 false, [.t 40], none⟩,
      ⟨some 42, .pur .mov, [.t 5], none⟩,
      ⟨some 43, .pur (.iaddr 3), [.t 41, .t 42], none⟩,
      ⟨some 44, .ld none 3 true, [.t 43], none⟩,
      ⟨some 45, .call 114, [.t 39, .t 44], none⟩,
      ⟨some 6, .pur .mov, [.t 45], none⟩]) <|
    .seq (.ops [
      ⟨some 46, .pur .mov, [.t 6], none⟩,
      ⟨some 47, .pur (.un .not), [.t 46], none⟩]) <|
    .cond (.t 47) (.seq (.ops [
        ⟨some 4, .pur .mov, [.k (.b false)], none⟩]) <|
      .ret) (.skip))) <|
  .ops [
    ⟨some 33, .pur .mov, [.t 5], none⟩,
    ⟨some 34, .pur (.bin .add), [.t 33, .k (.i (1))], none⟩,
    ⟨some 5, .pur .mov, [.t 34], none⟩]
def f114b : ACode :=
  .seq (.ops [
    ⟨some 2, .box .reg, [.t 0], none⟩,
    ⟨some 3, .box .reg, [.t 1], none⟩,
    ⟨some 4, .pur .mov, [.k (.b false)], none⟩]) <|
  .seq (.seq (.ops [
    ⟨some 7, .pur (.faddr 0), [.t 2], none⟩,
    ⟨some 8, .ld (some 2) 1 false, [.t 7], none⟩,
    ⟨some 9, .pur (.faddr 0), [.t 3], none⟩,
    ⟨some 10, .ld (some 3) 1 false, [.t 9], none⟩,
    ⟨some 11, .pur (.bin .neq), [.t 8, .t 10], none⟩,
    ⟨some 12, .pur .mov, [.t 11], none⟩,
    ⟨some 13, .pur (.faddr 1), [.t 2], some (12, false)⟩,
    ⟨some 14, .ld (some 2) 1 false, [.t 13], some (12, false)⟩,
    ⟨some 15, .pur (.faddr 1), [.t 3], some (12, false)⟩,
    ⟨some 16, .ld (some 3) 1 false, [.t 15], some (12, false)⟩,
    ⟨some 17, .pur (.bin .neq), [.t 14, .t 16], some (12, false)⟩,
    ⟨some 18, .pur .pick, [.t 12, .k (.b true), .t 17], none⟩,
    ⟨some 19, .pur .mov, [.t 18], none⟩,
    ⟨some 20, .pur (.faddr 2), [.t 2], some (19, false)⟩,
    ⟨some 21, .ld (some 2) 1 false, [.t 20], some (19, false)⟩,
    ⟨some 22, .pur .lenL, [.t 21], some (19, false)⟩,
    ⟨some 23, .pur (.faddr 2), [.t 3], some (19, false)⟩,
    ⟨some 24, .ld (some 3) 1 false, [.t 23], some (19, false)⟩,
    ⟨some 25, .pur .lenL, [.t 24], some (19, false)⟩,
    ⟨some 26, .pur (.bin .neq), [.t 22, .t 25], some (19, false)⟩,
    ⟨some 27, .pur .pick, [.t 19, .k (.b true), .t 26], none⟩]) <|
  .cond (.t 27) (.seq (.ops [
      ⟨some 4, .pur .mov, [.k (.b false)], none⟩]) <|
    .ret) (.skip)) <|
  .seq (.seq (.ops [
    ⟨some 5, .pur .mov, [.k (.i (0))], none⟩]) <|
  .block 0 (.loop [4, 6, 28, 29, 30, 31, 32, 33, 34, 35, 36, 37, 38, 39, 40, 41, 42, 43, 44, 45, 46, 47] [] f114_l0)) <|
  .seq (.ops [
    ⟨some 4, .pur .mov, [.k (.b true)], none⟩]) <|
  .ret
def f114 : AFunc := ⟨48, f114b, [.tmp 4]⟩
/- 115 sluiceway/sluicewayref14.Same -/
def f115_l0 : ACode :=
  .seq (.seq (.ops [
    ⟨some 44, .pur .mov, [.t 6], none⟩,
    ⟨some 45, .pur (.faddr 2), [.t 2], none⟩,
    ⟨some 46, .ld (some 2) 1 false, [.t 45], none⟩,
    ⟨some 47, .pur .lenL, [.t 46], none⟩,
    ⟨some 48, .pur (.bin .lss), [.t 44, .t 47], none⟩]) <|
  .cond (.t 48) (.skip) (.exit 0)) <|
  .seq (.block 1 (.seq (.ops [
      ⟨some 51, .pur (.faddr 2), [.t 2], none⟩,
      ⟨some 52, .ld (some 2) 1 false, [.t 51], none⟩,
      ⟨some 53, .pur .mov, [.t 6], none⟩,
      ⟨some 54, .pur (.iaddr 1), [.t 52, .t 53], none⟩,
      ⟨some 55, .ld none 1 false, [.t 54], none⟩,
      ⟨some 56, .pur (.faddr 2), [.t 3], none⟩,
      ⟨some 57, .ld (some 3) 1 false, [.t 56], none⟩,
      ⟨some 58, .pur .mov, [.t 6], none⟩,
      ⟨some 59, .pur (.iaddr 1), [.t 57, .t 58], none⟩,
      ⟨some 60, .ld none 1 false, [.t 59], none⟩,
      ⟨some 61, .pur (.bin .neq), [.t 55, .t 60], none⟩]) <|
    .cond (.t 61) (.seq (.ops [
        ⟨some 4, .pur .mov, [.k (.b false)], none⟩]) <|
      .ret) (.skip))) <|
  .ops [
    ⟨some 49, .pur .mov, [.t 6], none⟩,
    ⟨some 50, .pur (.bin .add), [.t 49, .k (.i (1))], none⟩,
    ⟨some 6, .pur .mov, [.t 50], none⟩]
def f115b : ACode :=
  .seq (.ops [
    ⟨some 2, .box .reg, [.t 0], none⟩,
    ⟨some 3, .box .reg, [.t 1], none⟩,
    ⟨some 4, .pur .mov, [.k (.b false)], none⟩]) <|
  .seq (.ops [
    ⟨some 7, .pur (.faddr 3), [.t 2], none⟩,
    ⟨some 8, .ld (some 2) 3 true, [.t 7], none⟩,
    ⟨some 9, .pur (.faddr 3), [.t 3], none⟩,
    ⟨some 10, .ld (some 3) 3 true, [.t 9], none⟩,
    ⟨some 11, .call 114, [.t 8, .t 10], none⟩,
    ⟨some 5, .pur .mov, [.t 11], none⟩]) <|
  .seq (.seq (.ops [
    ⟨some 12, .pur (.faddr 0), [.t 2], none⟩,
    ⟨some 13, .ld (some 2) 1 false, [.t 12], none⟩,
    ⟨some 14, .pur (.faddr 0), [.t 3], none⟩,
    ⟨some 15, .ld (some 3) 1 false, [.t 14], none⟩,
    ⟨some 16, .pur (.bin .neq), [.t 13, .t 15], none⟩,
    ⟨some 17, .pur .mov, [.t 16], none⟩,
    ⟨some 18, .pur (.faddr 1), [.t 2], some (17, false)⟩,
    ⟨some 19, .ld (some 2) 1 false, [.t 18], some (17, false)⟩,
    ⟨some 20, .pur (.faddr 1), [.t 3], some (17, false)⟩,
    ⟨some 21, .ld (some 3) 1 false, [.t 20], some (17, false)⟩,
    ⟨some 22, .pur (.bin .neq), [.t 19, .t 21], some (17, false)⟩,
    ⟨some 23, .pur .pick, [.t 17, .k (.b true), .t 22], none⟩,
    ⟨some 24, .pur .mov, [.t 23], none⟩,
    ⟨some 25, .pur (.faddr 6), [.t 2], some (24, false)⟩,
    ⟨some 26, .ld (some 2) 1 false, [.t 25], some (24, false)⟩,
    ⟨some 27, .pur (.faddr 6), [.t 3], some (24, false)⟩,
    ⟨some 28, .ld (some 3) 1 false, [.t 27], some (24, false)⟩,
    ⟨some 29, .pur (.bin .neq), [.t 26, .t 28], some (24, false)⟩,
    ⟨some 30, .pur .pick, [.t 24, .k (.b true), .t 29], none⟩,
    ⟨some 31, .pur .mov, [.t 30], none⟩,
    ⟨some 32, .pur (.faddr 2), [.t 2], some (31, false)⟩,
    ⟨some 33, .ld (some 2) 1 false, [.t 32], some (31, false)⟩,
    ⟨some 34, .pur .lenL, [.t 33], some (31, false)⟩,
    ⟨some 35, .pur (.faddr 2), [.t 3], some (31, false)⟩,
    ⟨some 36, .ld (some 3) 1 false, [.t 35], some (31, false)⟩,
    ⟨some 37, .pur .lenL, [.t 36], some (31, false)⟩,
    ⟨some 38, .pur (.bin .neq), [.t 34, .t 37], some (31, false)⟩,
    ⟨some 39, .pur .pick, [.t 31, .k (.b true), .t 38], none⟩,
    ⟨some 40, .pur .mov, [.t 39], none⟩,
    ⟨some 41, .pur .mov, [.t 5], some (40, false)⟩,
    ⟨some 42, .pur (.un .not), [.t 41], some (40, false)⟩,
    ⟨some 43, .pur .pick, [.t 40, .k (.b true), .t 42], none⟩]) <|
  .cond (.t 43) (.seq (.ops [
      ⟨some 4, .pur .mov, [.k (.b false)], none⟩]) <|
    .ret) (.skip)) <|
  .seq (.seq (.ops [
    ⟨some 6, .pur .mov, [.k (.i (0))], none⟩]) <|
  .block 0 (.loop [4, 44, 45, 46, 47, 48, 49, 50, 51, 52, 53, 54, 55, 56, 57, 58, 59, 60, 61] [] f115_l0)) <|
  .seq (.ops [
    ⟨some 4, .pur .mov, [.k (.b true)], none⟩]) <|
  .ret
def f115 : AFunc := ⟨62, f115b, [.tmp 4]⟩
/- 116 sluiceway/term.Right -/
def f116b : ACode :=
  .seq (.ops [
    ⟨some 1, .box .reg, [.t 0], none⟩,
    ⟨some 2, .pur .mov, [.k (.b false)], none⟩]) <|
  .seq (.ops [
    ⟨some 3, .ld (some 1) 3 true, [.t 1], none⟩,
    ⟨some 4, .call 221, [.t 3, .k (.i (60))], none⟩,
    ⟨some 5, .pur .mov, [.t 4], none⟩,
    ⟨some 6, .ld (some 1) 3 true, [.t 1], some (5, true)⟩,
    ⟨some 7, .call 222, [.t 6], some (5, true)⟩,
    ⟨some 8, .pur .pick, [.t 5, .t 7, .k (.b false)], none⟩,
    ⟨some 2, .pur .mov, [.t 8], none⟩]) <|
  .ret
def f116 : AFunc := ⟨9, f116b, [.tmp 2]⟩
/- 117 sluiceway/term.Depth -/
def f117b : ACode :=
  .seq (.ops [
    ⟨some 1, .box .reg, [.t 0], none⟩,
    ⟨some 2, .pur .mov, [.k (.i (0))], none⟩]) <|
  .seq (.ops [
    ⟨some 3, .ld (some 1) 3 true, [.t 1], none⟩,
    ⟨some 4, .call 223, [.t 3, .k (.i (61))], none⟩,
    ⟨some 2, .pur .mov, [.t 4], none⟩]) <|
  .ret
def f117 : AFunc := ⟨5, f117b, [.tmp 2]⟩
/- 118 sluiceway/term.Same -/
def f118b : ACode :=
  .seq (.ops [
    ⟨some 2, .box .reg, [.t 0], none⟩,
    ⟨some 3, .box .reg, [.t 1], none⟩,
    ⟨some 4, .pur .mov, [.k (.b false)], none⟩]) <|
  .seq (.ops [
    ⟨some 5, .pur (.faddr 0), [.t 2], none⟩,
    ⟨some 6, .ld (some 2) 1 false, [.t 5], none⟩,
    ⟨some 7, .pur (.faddr 0), [.t 3], none⟩,
    ⟨some 8, .ld (some 3) 1 false, [.t 7], none⟩,
    ⟨some 9, .pur (.bin .eql), [.t 6, .t 8], none⟩,
    ⟨some 10, .pur .mov, [.t 9], none⟩,
    ⟨some 11, .pur (.faddr 1), [.t 2], some (10, true)⟩,
    ⟨some 12, .ld (some 2) 1 false, [.t 11], some (10, true)⟩,
    ⟨some 13, .pur (.faddr 1), [.t 3], some (10, true)⟩,
    ⟨some 14, .ld (some 3) 1 false, [.t 13], some (10, true)⟩,
    ⟨some 15, .pur (.bin .eql), [.t 12, .t 14], some (10, true)⟩,
    ⟨some 16, .pur .pick, [.t 10, .t 15, .k (.b false)], none⟩,
    ⟨some 17, .pur .mov, [.t 16], none⟩,
    ⟨some 18, .pur (.faddr 2), [.t 2], some (17, true)⟩,
    ⟨some 19, .ld (some 2) 1 false, [.t 18], some (17, true)⟩,
    ⟨some 20, .pur (.faddr 2), [.t 3], some (17, true)⟩,
    ⟨some 21, .ld (some 3) 1 false, [.t 20], some (17, true)⟩,
    ⟨some 22, .call 224, [.t 19, .t 21, .k (.fn 118 [] [])], some (17, true)⟩,
    ⟨some 23, .pur .pick, [.t 17, .t 22, .k (.b false)], none⟩,
    ⟨some 4, .pur .mov, [.t 23], none⟩]) <|
  .ret
def f118 : AFunc := ⟨24, f118b, [.tmp 4]⟩
/- 121 sluiceway/term.Text -/
def f121b : ACode :=
  .seq (.ops [
    ⟨some 1, .box .reg, [.t 0], none⟩,
    ⟨some 2, .pur .mov, [.k (.s ⟨#[]⟩)], none⟩]) <|
  .seq (.seq (.ops [
    ⟨some 3, .ld (some 1) 3 true, [.t 1], none⟩,
    ⟨some 4, .call 221, [.t 3, .k (.i (60))], none⟩,
    ⟨some 5, .pur (.un .not), [.t 4], none⟩]) <|
  .cond (.t 5) (.seq (.ops [
      ⟨some 2, .pur .mov, [.k (.s ⟨#[]⟩)], none⟩]) <|
    .ret) (.skip)) <|
  .seq (.ops [
    ⟨some 6, .ld (some 1) 3 true, [.t 1], none⟩,
    ⟨some 7, .call 227, [.t 6], none⟩,
    ⟨some 2, .pur .mov, [.t 7], none⟩]) <|
  .ret
def f121 : AFunc := ⟨8, f121b, [.tmp 2]⟩
/- 122 sluiceway/term.Atom -/
def f122b : ACode :=
  .seq (.ops [
    ⟨some 2, .alloc .reg [.i (0), .s ⟨#[]⟩, .lst 0 true []], [], none⟩]) <|
  .seq (.ops [
    ⟨some 3, .pur .mov, [.t 0], none⟩,
    ⟨some 4, .call 228, [.k (.i (2)), .t 3, .k (.lst 0 true [])], none⟩,
    ⟨none, .st (some 2) 3, [.t 2, .t 4], none⟩]) <|
  .ret
def f122 : AFunc := ⟨5, f122b, [.cell 2 3 true]⟩
/- 126 sluiceway/term.Pair -/
def f126b : ACode :=
  .seq (.ops [
    ⟨some 2, .alloc .reg [.i (0), .s ⟨#[]⟩, .lst 0 true []], [], none⟩]) <|
  .seq (.ops [
    ⟨some 3, .pur .mov, [.t 0], none⟩,
    ⟨some 4, .call 228, [.k (.i (3)), .k (.s ⟨#[]⟩), .t 3], none⟩,
    ⟨none, .st (some 2) 3, [.t 2, .t 4], none⟩]) <|
  .ret
def f126 : AFunc := ⟨5, f126b, [.cell 2 3 true]⟩
/- 128 sluiceway/term.Enc -/
def f128b : ACode :=
  .seq (.ops [
    ⟨some 2, .box .reg, [.t 0], none⟩,
    ⟨some 3, .box .reg, [.t 1], none⟩,
    ⟨some 4, .alloc .reg [.i (0), .s ⟨#[]⟩, .lst 0 true []], [], none⟩]) <|
  .seq (.ops [
    ⟨some 5, .ld (some 2) 3 true, [.t 2], none⟩,
    ⟨some 6, .ld (some 3) 3 true, [.t 3], none⟩,
    ⟨some 7, .pur (.buildSl 3 2 [.i (0), .s ⟨#[]⟩, .lst 0 true []] [0, 1]), [.t 5, .t 6], none⟩,
    ⟨some 8, .call 228, [.k (.i (4)), .k (.s ⟨#[]⟩), .t 7], none⟩,
    ⟨none, .st (some 4) 3, [.t 4, .t 8], none⟩]) <|
  .ret
def f128 : AFunc := ⟨9, f128b, [.cell 4 3 true]⟩
/- 192 sluiceway/term.Data -/
def f192b : ACode :=
  .seq (.ops [
    ⟨some 2, .alloc .reg [.i (0), .s ⟨#[]⟩, .lst 0 true []], [], none⟩]) <|
  .seq (.ops [
    ⟨some 3, .pur .mov, [.t 0], none⟩,
    ⟨some 4, .call 228, [.k (.i (1)), .t 3, .k (.lst 0 true [])], none⟩,
    ⟨none, .st (some 2) 3, [.t 2, .t 4], none⟩]) <|
  .ret
def f192 : AFunc := ⟨5, f192b, [.cell 2 3 true]⟩
/- 195 strings.CutPrefix -/
def f195b : ACode :=
  .seq (.ops [
    ⟨some 4, .pur .mov, [.k (.s ⟨#[]⟩)], none⟩,
    ⟨some 5, .pur .mov, [.k (.b false)], none⟩]) <|
  .seq (.ops [
    ⟨some 6, .pur .mov, [.t 0], none⟩,
    ⟨some 7, .pur .mov, [.t 1], none⟩,
    ⟨some 8, .call 306, [.t 6, .t 7], none⟩,
    ⟨some 9, .pur (.extract 0), [.t 8], none⟩,
    ⟨some 10, .pur (.extract 1), [.t 8], none⟩,
    ⟨some 4, .pur .mov, [.t 9], none⟩,
    ⟨some 5, .pur .mov, [.t 10], none⟩]) <|
  .ret
def f195 : AFunc := ⟨11, f195b, [.tmp 4, .tmp 5]⟩
/- 209 sluiceway/sluicewaylaw14.count -/
def f209_l0 : ACode :=
  .seq (.seq (.ops [
    ⟨some 5, .pur .mov, [.t 4], none⟩,
    ⟨some 6, .pur (.faddr 2), [.t 1], none⟩,
    ⟨some 7, .ld (some 1) 1 false, [.t 6], none⟩,
    ⟨some 8, .pur .lenL, [.t 7], none⟩,
    ⟨some 9, .pur (.bin .lss), [.t 5, .t 8], none⟩,
    ⟨some 10, .pur .mov, [.t 9], none⟩,
    ⟨some 11, .pur .mov, [.t 3], some (10, true)⟩,
    ⟨some 12, .pur (.bin .leq), [.t 11, .k (.i (60))], some (10, true)⟩,
    ⟨some 13, .pur .pick, [.t 10, .t 12, .k (.b false)], none⟩]) <|
  .cond (.t 13) (.skip) (.exit 0)) <|
  .seq (.block 1 (.ops [
      ⟨some 16, .pur .mov, [.t 3], none⟩,
      ⟨some 17, .pur (.faddr 2), [.t 1], none⟩,
      ⟨some 18, .ld (some 1) 1 false, [.t 17], none⟩,
      ⟨some 19, .pur .mov, [.t 4], none⟩,
      ⟨some 20, .pur (.iaddr 3), [.t 18, .t 19], none⟩,
      ⟨some 21, .ld none 3 true, [.t 20], none⟩,
      ⟨some 22, .call 209, [.t 21], none⟩,
      ⟨some 23, .pur (.bin .add), [.t 16, .t 22], none⟩,
      ⟨some 3, .pur .mov, [.t 23], none⟩])) <|
  .ops [
    ⟨some 14, .pur .mov, [.t 4], none⟩,
    ⟨some 15, .pur (.bin .add), [.t 14, .k (.i (1))], none⟩,
    ⟨some 4, .pur .mov, [.t 15], none⟩]
def f209b : ACode :=
  .seq (.ops [
    ⟨some 1, .box .reg, [.t 0], none⟩,
    ⟨some 2, .pur .mov, [.k (.i (0))], none⟩]) <|
  .seq (.ops [
    ⟨some 3, .pur .mov, [.k (.i (1))], none⟩]) <|
  .seq (.seq (.ops [
    ⟨some 4, .pur .mov, [.k (.i (0))], none⟩]) <|
  .block 0 (.loop [5, 6, 7, 8, 9, 10, 11, 12, 13, 14, 15, 16, 17, 18, 19, 20, 21, 22, 23] [] f209_l0)) <|
  .seq (.ops [
    ⟨some 24, .pur .mov, [.t 3], none⟩,
    ⟨some 25, .pur .min, [.t 24, .k (.i (61))], none⟩,
    ⟨some 2, .pur .mov, [.t 25], none⟩]) <|
  .ret
def f209 : AFunc := ⟨26, f209b, [.tmp 2]⟩
/- 210 sluiceway/cookie.fits -/
def f210b : ACode :=
  .seq (.ops [
    ⟨some 1, .box .reg, [.t 0], none⟩,
    ⟨some 2, .pur .mov, [.k (.b false)], none⟩]) <|
  .seq (.ops [
    ⟨some 3, .ld (some 1) 3 true, [.t 1], none⟩,
    ⟨some 4, .call 116, [.t 3], none⟩,
    ⟨some 5, .pur .mov, [.t 4], none⟩,
    ⟨some 6, .ld (some 1) 3 true, [.t 1], some (5, true)⟩,
    ⟨some 7, .call 117, [.t 6], some (5, true)⟩,
    ⟨some 8, .pur (.bin .leq), [.t 7, .k (.i (57))], some (5, true)⟩,
    ⟨some 9, .pur .pick, [.t 5, .t 8, .k (.b false)], none⟩,
    ⟨some 2, .pur .mov, [.t 9], none⟩]) <|
  .ret
def f210 : AFunc := ⟨10, f210b, [.tmp 2]⟩
/- 214 (sluiceway/cookie.body).client -/
def f214b : ACode :=
  .seq (.ops [
    ⟨some 2, .box .reg, [.t 0], none⟩]) <|
  .ops [
    ⟨some 4, .pur .mov, [.t 1], none⟩,
    ⟨some 5, .ld (some 2) 3 true, [.t 2], none⟩,
    ⟨some 6, .call 315, [.t 5, .k (.i (1)), .k (.s ⟨#[99]⟩)], none⟩,
    ⟨some 7, .pur .nilchk, [.t 4], none⟩,
    ⟨some 8, .pur (.faddr 0), [.t 7], none⟩,
    ⟨none, .st none 1, [.t 8, .t 6], none⟩]
def f214 : AFunc := ⟨9, f214b, []⟩
/- 215 (sluiceway/cookie.body).nonce -/
def f215b : ACode :=
  .seq (.ops [
    ⟨some 2, .box .reg, [.t 0], none⟩]) <|
  .ops [
    ⟨some 4, .pur .mov, [.t 1], none⟩,
    ⟨some 5, .ld (some 2) 3 true, [.t 2], none⟩,
    ⟨some 6, .call 315, [.t 5, .k (.i (2)), .k (.s ⟨#[110]⟩)], none⟩,
    ⟨some 7, .pur .nilchk, [.t 4], none⟩,
    ⟨some 8, .pur (.faddr 1), [.t 7], none⟩,
    ⟨none, .st none 1, [.t 8, .t 6], none⟩]
def f215 : AFunc := ⟨9, f215b, []⟩
/- 216 (sluiceway/cookie.body).done -/
def f216_l0 : ACode :=
  .seq (.ops [
    ⟨some 16, .pur (.bin .lss), [.t 15, .t 14], none⟩]) <|
  .seq (.cond (.t 16) (.skip) (.exit 0)) <|
  .seq (.block 1 (.seq (.ops [
      ⟨some 17, .pur (.iaddr 3), [.t 13, .t 15], none⟩,
      ⟨some 18, .ld none 3 true, [.t 17], none⟩,
      ⟨some 5, .alloc .reg [.i (0), .s ⟨#[]⟩, .lst 0 true []], [], none⟩,
      ⟨none, .st (some 5) 3, [.t 5, .t 18], none⟩]) <|
    .seq (.ops [
      ⟨some 20, .pur (.faddr 1), [.t 5], none⟩,
      ⟨some 21, .ld (some 5) 1 false, [.t 20], none⟩,
      ⟨some 22, .call 195, [.t 21, .k (.s ⟨#[100]⟩)], none⟩,
      ⟨some 19, .pur .mov, [.t 22], none⟩,
      ⟨some 23, .pur (.extract 0), [.t 19], none⟩,
      ⟨some 24, .pur (.extract 1), [.t 19], none⟩,
      ⟨some 6, .pur .mov, [.t 23], none⟩,
      ⟨some 7, .pur .mov, [.t 24], none⟩]) <|
    .ops [
      ⟨some 25, .pur .mov, [.t 1], none⟩,
      ⟨some 26, .pur .mov, [.t 1], none⟩,
      ⟨some 27, .pur .nilchk, [.t 26], none⟩,
      ⟨some 28, .pur (.faddr 2), [.t 27], none⟩,
      ⟨some 29, .ld none 1 false, [.t 28], none⟩,
      ⟨some 30, .pur .mov, [.t 6], none⟩,
      ⟨some 31, .pur (.buildSl 1 1 [.s ⟨#[]⟩] [0]), [.t 30], none⟩,
      ⟨some 32, .append 1 16, [.t 29, .t 31], none⟩,
      ⟨some 33, .pur .nilchk, [.t 25], none⟩,
      ⟨some 34, .pur (.faddr 2), [.t 33], none⟩,
      ⟨none, .st none 1, [.t 34, .t 32], none⟩])) <|
  .ops [
    ⟨some 35, .pur (.bin .add), [.t 15, .k (.i (1))], none⟩,
    ⟨some 15, .pur .mov, [.t 35], none⟩]
def f216b : ACode :=
  .seq (.ops [
    ⟨some 2, .box .reg, [.t 0], none⟩]) <|
  .seq (.ops [
    ⟨some 8, .pur (.faddr 0), [.t 2], none⟩,
    ⟨some 9, .pur (.faddr 2), [.t 8], none⟩,
    ⟨some 10, .ld (some 2) 1 false, [.t 9], none⟩,
    ⟨some 11, .pur (.iaddr 3), [.t 10, .k (.i (3))], none⟩,
    ⟨some 12, .pur (.faddr 2), [.t 11], none⟩,
    ⟨some 13, .ld none 1 false, [.t 12], none⟩,
    ⟨some 14, .pur .lenL, [.t 13], none⟩,
    ⟨some 15, .pur .mov, [.k (.i (0))], none⟩]) <|
  .block 0 (.loop [5, 6, 7, 16, 17, 18, 19, 20, 21, 22, 23, 24, 25, 26, 27, 28, 29, 30, 31, 32, 33, 34, 35] [5] f216_l0)
def f216 : AFunc := ⟨36, f216b, []⟩
/- 217 (sluiceway/cookie.body).secret -/
def f217b : ACode :=
  .seq (.ops [
    ⟨some 2, .box .reg, [.t 0], none⟩]) <|
  .ops [
    ⟨some 4, .pur .mov, [.t 1], none⟩,
    ⟨some 5, .pur (.faddr 0), [.t 2], none⟩,
    ⟨some 6, .pur (.faddr 2), [.t 5], none⟩,
    ⟨some 7, .ld (some 2) 1 false, [.t 6], none⟩,
    ⟨some 8, .pur (.iaddr 3), [.t 7, .k (.i (4))], none⟩,
    ⟨some 9, .ld none 3 true, [.t 8], none⟩,
    ⟨some 10, .pur .nilchk, [.t 4], none⟩,
    ⟨some 11, .pur (.faddr 3), [.t 10], none⟩,
    ⟨none, .st none 3, [.t 11, .t 9], none⟩]
def f217 : AFunc := ⟨12, f217b, []⟩
/- 218 (sluiceway/cookie.body).until -/
def f218b : ACode :=
  .seq (.ops [
    ⟨some 2, .box .reg, [.t 0], none⟩]) <|
  .ops [
    ⟨some 5, .pur .mov, [.t 1], none⟩,
    ⟨some 6, .ld (some 2) 3 true, [.t 2], none⟩,
    ⟨some 7, .call 315, [.t 6, .k (.i (5)), .k (.s ⟨#[117]⟩)], none⟩,
    ⟨some 8, .call 196, [.t 7], none⟩,
    ⟨some 4, .pur .mov, [.t 8], none⟩,
    ⟨some 9, .pur (.extract 0), [.t 4], none⟩,
    ⟨some 10, .pur (.extract 1), [.t 4], none⟩,
    ⟨some 11, .pur .nilchk, [.t 5], none⟩,
    ⟨some 12, .pur (.faddr 6), [.t 11], none⟩,
    ⟨none, .st none 1, [.t 12, .t 9], none⟩]
def f218 : AFunc := ⟨13, f218b, []⟩
/- 221 sluiceway/term.shape -/
def f221b : ACode :=
  .seq (.ops [
    ⟨some 2, .box .reg, [.t 0], none⟩,
    ⟨some 3, .pur .ibox, [.t 1], none⟩,
    ⟨some 4, .pur .mov, [.k (.b false)], none⟩]) <|
  .seq (.seq (.ops [
    ⟨some 6, .ld none 1 false, [.t 3], none⟩,
    ⟨some 7, .pur (.bin .eql), [.t 6, .k (.i (0))], none⟩,
    ⟨some 8, .pur .mov, [.t 7], none⟩,
    ⟨some 9, .ld (some 2) 3 true, [.t 2], some (8, false)⟩,
    ⟨some 10, .call 319, [.t 9], some (8, false)⟩,
    ⟨some 11, .pur (.un .not), [.t 10], some (8, false)⟩,
    ⟨some 12, .pur .pick, [.t 8, .k (.b true), .t 11], none⟩,
    ⟨some 13, .pur .mov, [.t 12], none⟩,
    ⟨some 14, .pur (.faddr 0), [.t 2], some (13, false)⟩,
    ⟨some 15, .ld (some 2) 1 false, [.t 14], some (13, false)⟩,
    ⟨some 16, .pur (.iaddrA 3 11), [.g 0, .t 15], some (13, false)⟩,
    ⟨some 17, .pur (.faddr 2), [.t 16], some (13, false)⟩,
    ⟨some 18, .ld none 1 false, [.t 17], some (13, false)⟩,
    ⟨some 19, .pur (.faddr 1), [.t 2], some (13, false)⟩,
    ⟨some 20, .ld (some 2) 1 false, [.t 19], some (13, false)⟩,
    ⟨some 21, .pur (.bin .eql), [.t 20, .k (.s ⟨#[]⟩)], some (13, false)⟩,
    ⟨some 22, .pur (.eqB false), [.t 18, .t 21], some (13, false)⟩,
    ⟨some 23, .pur .pick, [.t 13, .k (.b true), .t 22], none⟩]) <|
  .cond (.t 23) (.seq (.ops [
      ⟨some 4, .pur .mov, [.k (.b false)], none⟩]) <|
    .ret) (.skip)) <|
  .seq (.seq (.ops [
    ⟨some 24, .pur (.faddr 0), [.t 2], none⟩,
    ⟨some 25, .ld (some 2) 1 false, [.t 24], none⟩,
    ⟨some 26, .pur (.iaddrA 3 11), [.g 0, .t 25], none⟩,
    ⟨some 27, .pur (.faddr 1), [.t 26], none⟩,
    ⟨some 28, .ld none 1 false, [.t 27], none⟩,
    ⟨some 5, .pur .mov, [.t 28], none⟩]) <|
  .seq (.ops [
    ⟨some 29, .pur .mov, [.t 5], none⟩,
    ⟨some 30, .pur (.bin .geq), [.t 29, .k (.i (0))], none⟩,
    ⟨some 31, .pur .mov, [.t 30], none⟩,
    ⟨some 32, .pur (.faddr 2), [.t 2], some (31, true)⟩,
    ⟨some 33, .ld (some 2) 1 false, [.t 32], some (31, true)⟩,
    ⟨some 34, .pur .lenL, [.t 33], some (31, true)⟩,
    ⟨some 35, .pur .mov, [.t 5], some (31, true)⟩,
    ⟨some 36, .pur (.bin .neq), [.t 34, .t 35], some (31, true)⟩,
    ⟨some 37, .pur .pick, [.t 31, .t 36, .k (.b false)], none⟩]) <|
  .cond (.t 37) (.seq (.ops [
      ⟨some 4, .pur .mov, [.k (.b false)], none⟩]) <|
    .ret) (.skip)) <|
  .seq (.ops [
    ⟨some 38, .pur (.faddr 2), [.t 2], none⟩,
    ⟨some 39, .ld (some 2) 1 false, [.t 38], none⟩,
    ⟨some 40, .pur (.mkfn 321 0), [.t 3], none⟩,
    ⟨some 41, .call 320, [.t 39, .t 40], none⟩,
    ⟨some 42, .pur (.un .not), [.t 41], none⟩,
    ⟨some 4, .pur .mov, [.t 42], none⟩]) <|
  .ret
def f221 : AFunc := ⟨43, f221b, [.tmp 4]⟩
/- 222 sluiceway/term.ordered -/
def f222b : ACode :=
  .seq (.ops [
    ⟨some 1, .box .reg, [.t 0], none⟩,
    ⟨some 2, .pur .mov, [.k (.b false)], none⟩]) <|
  .seq (.seq (.ops [
    ⟨some 3, .pur (.faddr 0), [.t 1], none⟩,
    ⟨some 4, .ld (some 1) 1 false, [.t 3], none⟩,
    ⟨some 5, .pur (.bin .eql), [.t 4, .k (.i (9))], none⟩,
    ⟨some 6, .pur .mov, [.t 5], none⟩,
    ⟨some 7, .pur (.faddr 2), [.t 1], some (6, true)⟩,
    ⟨some 8, .ld (some 1) 1 false, [.t 7], some (6, true)⟩,
    ⟨some 9, .pur (.iaddr 3), [.t 8, .k (.i (1))], some (6, true)⟩,
    ⟨some 10, .ld none 3 true, [.t 9], some (6, true)⟩,
    ⟨some 11, .call 227, [.t 10], some (6, true)⟩,
    ⟨some 12, .pur (.faddr 2), [.t 1], some (6, true)⟩,
    ⟨some 13, .ld (some 1) 1 false, [.t 12], some (6, true)⟩,
    ⟨some 14, .pur (.iaddr 3), [.t 13, .k (.i (0))], some (6, true)⟩,
    ⟨some 15, .ld none 3 true, [.t 14], some (6, true)⟩,
    ⟨some 16, .call 227, [.t 15], some (6, true)⟩,
    ⟨some 17, .pur (.bin .lss), [.t 11, .t 16], some (6, true)⟩,
    ⟨some 18, .pur .pick, [.t 6, .t 17, .k (.b false)], none⟩]) <|
  .cond (.t 18) (.seq (.ops [
      ⟨some 2, .pur .mov, [.k (.b false)], none⟩]) <|
    .ret) (.skip)) <|
  .seq (.ops [
    ⟨some 19, .pur (.faddr 2), [.t 1], none⟩,
    ⟨some 20, .ld (some 1) 1 false, [.t 19], none⟩,
    ⟨some 21, .call 320, [.t 20, .k (.fn 322 [] [])], none⟩,
    ⟨some 22, .pur (.un .not), [.t 21], none⟩,
    ⟨some 2, .pur .mov, [.t 22], none⟩]) <|
  .ret
def f222 : AFunc := ⟨23, f222b, [.tmp 2]⟩
/- 223 sluiceway/term.depth -/
def f223_l0 : ACode :=
  .seq (.ops [
    ⟨some 15, .pur (.bin .lss), [.t 14, .t 13], none⟩]) <|
  .seq (.cond (.t 15) (.skip) (.exit 0)) <|
  .seq (.block 1 (.seq (.ops [
      ⟨some 16, .pur (.iaddr 3), [.t 12, .t 14], none⟩,
      ⟨some 17, .ld none 3 true, [.t 16], none⟩,
      ⟨some 7, .alloc .reg [.i (0), .s ⟨#[]⟩, .lst 0 true []], [], none⟩,
      ⟨none, .st (some 7) 3, [.t 7, .t 17], none⟩]) <|
    .ops [
      ⟨some 18, .pur .mov, [.t 5], none⟩,
      ⟨some 19, .ld (some 7) 3 true, [.t 7], none⟩,
      ⟨some 20, .pur .mov, [.t 1], none⟩,
      ⟨some 21, .pur (.bin .sub), [.t 20, .k (.i (1))], none⟩,
      ⟨some 22, .call 223, [.t 19, .t 21], none⟩,
      ⟨some 23, .pur .max, [.t 18, .t 22], none⟩,
      ⟨some 5, .pur .mov, [.t 23], none⟩])) <|
  .ops [
    ⟨some 24, .pur (.bin .add), [.t 14, .k (.i (1))], none⟩,
    ⟨some 14, .pur .mov, [.t 24], none⟩]
def f223b : ACode :=
  .seq (.ops [
    ⟨some 2, .box .reg, [.t 0], none⟩,
    ⟨some 4, .pur .mov, [.k (.i (0))], none⟩]) <|
  .seq (.seq (.ops [
    ⟨some 8, .pur .mov, [.t 1], none⟩,
    ⟨some 9, .pur (.bin .leq), [.t 8, .k (.i (1))], none⟩]) <|
  .cond (.t 9) (.seq (.ops [
      ⟨some 10, .pur .mov, [.t 1], none⟩,
      ⟨some 4, .pur .mov, [.t 10], none⟩]) <|
    .ret) (.skip)) <|
  .seq (.ops [
    ⟨some 5, .pur .mov, [.k (.i (0))], none⟩]) <|
  .seq (.seq (.ops [
    ⟨some 11, .pur (.faddr 2), [.t 2], none⟩,
    ⟨some 12, .ld (some 2) 1 false, [.t 11], none⟩,
    ⟨some 13, .pur .lenL, [.t 12], none⟩,
    ⟨some 14, .pur .mov, [.k (.i (0))], none⟩]) <|
  .block 0 (.loop [7, 15, 16, 17, 18, 19, 20, 21, 22, 23, 24] [7] f223_l0)) <|
  .seq (.ops [
    ⟨some 25, .pur .mov, [.t 5], none⟩,
    ⟨some 26, .pur (.bin .add), [.t 25, .k (.i (1))], none⟩,
    ⟨some 4, .pur .mov, [.t 26], none⟩]) <|
  .ret
def f223 : AFunc := ⟨27, f223b, [.tmp 4]⟩
/- 224 slices.EqualFunc[[]sluiceway/api.Term,[]sluiceway/api.Term,sluiceway/api.Term,sluiceway/api.Term] -/
def f224_l0 : ACode :=
  .seq (.ops [
    ⟨some 18, .pur (.bin .lss), [.t 17, .t 16], none⟩]) <|
  .seq (.cond (.t 18) (.skip) (.exit 0)) <|
  .seq (.block 1 (.seq (.ops [
      ⟨some 19, .pur .mov, [.t 17], none⟩,
      ⟨some 20, .pur (.iaddr 3), [.t 15, .t 17], none⟩,
      ⟨some 21, .ld none 3 true, [.t 20], none⟩,
      ⟨some 8, .alloc .reg [.i (0), .s ⟨#[]⟩, .lst 0 true []], [], none⟩,
      ⟨some 7, .pur .mov, [.t 19], none⟩,
      ⟨none, .st (some 8) 3, [.t 8, .t 21], none⟩]) <|
    .seq (.ops [
      ⟨some 22, .pur .mov, [.t 1], none⟩,
      ⟨some 23, .pur .mov, [.t 7], none⟩,
      ⟨some 24, .pur (.iaddr 3), [.t 22, .t 23], none⟩,
      ⟨some 25, .ld none 3 true, [.t 24], none⟩,
      ⟨some 9, .alloc .reg [.i (0), .s ⟨#[]⟩, .lst 0 true []], [], none⟩,
      ⟨none, .st (some 9) 3, [.t 9, .t 25], none⟩]) <|
    .seq (.ops [
      ⟨some 26, .pur .mov, [.t 2], none⟩,
      ⟨some 27, .ld (some 8) 3 true, [.t 8], none⟩,
      ⟨some 28, .ld (some 9) 3 true, [.t 9], none⟩,
      ⟨some 29, .callv, [.t 26, .t 27, .t 28], none⟩,
      ⟨some 30, .pur (.un .not), [.t 29], none⟩]) <|
    .cond (.t 30) (.seq (.ops [
        ⟨some 6, .pur .mov, [.k (.b false)], none⟩]) <|
      .ret) (.skip))) <|
  .ops [
    ⟨some 31, .pur (.bin .add), [.t 17, .k (.i (1))], none⟩,
    ⟨some 17, .pur .mov, [.t 31], none⟩]
def f224b : ACode :=
  .seq (.ops [
    ⟨some 6, .pur .mov, [.k (.b false)], none⟩]) <|
  .seq (.seq (.ops [
    ⟨some 10, .pur .mov, [.t 0], none⟩,
    ⟨some 11, .pur .lenL, [.t 10], none⟩,
    ⟨some 12, .pur .mov, [.t 1], none⟩,
    ⟨some 13, .pur .lenL, [.t 12], none⟩,
    ⟨some 14, .pur (.bin .neq), [.t 11, .t 13], none⟩]) <|
  .cond (.t 14) (.seq (.ops [
      ⟨some 6, .pur .mov, [.k (.b false)], none⟩]) <|
    .ret) (.skip)) <|
  .seq (.seq (.ops [
    ⟨some 15, .pur .mov, [.t 0], none⟩,
    ⟨some 16, .pur .lenL, [.t 15], none⟩,
    ⟨some 17, .pur .mov, [.k (.i (0))], none⟩]) <|
  .block 0 (.loop [6, 7, 8, 9, 18, 19, 20, 21, 22, 23, 24, 25, 26, 27, 28, 29, 30, 31] [8, 9] f224_l0)) <|
  .seq (.ops [
    ⟨some 6, .pur .mov, [.k (.b true)], none⟩]) <|
  .ret
def f224 : AFunc := ⟨32, f224b, [.tmp 6]⟩
/- 227 sluiceway/term.text -/
def f227_l0 : ACode :=
  .seq (.ops [
    ⟨some 39, .pur (.bin .lss), [.t 38, .t 37], none⟩]) <|
  .seq (.cond (.t 39) (.skip) (.exit 0)) <|
  .seq (.block 1 (.seq (.ops [
      ⟨some 40, .pur (.iaddr 3), [.t 36, .t 38], none⟩,
      ⟨some 41, .ld none 3 true, [.t 40], none⟩,
      ⟨some 6, .alloc .reg [.i (0), .s ⟨#[]⟩, .lst 0 true []], [], none⟩,
      ⟨none, .st (some 6) 3, [.t 6, .t 41], none⟩]) <|
    .ops [
      ⟨some 42, .pur .mov, [.t 4], none⟩,
      ⟨some 43, .ld (some 6) 3 true, [.t 6], none⟩,
      ⟨some 44, .call 227, [.t 43], none⟩,
      ⟨some 45, .pur (.buildSl 1 1 [.s ⟨#[]⟩] [0]), [.t 44], none⟩,
      ⟨some 46, .append 1 16, [.t 42, .t 45], none⟩,
      ⟨some 4, .pur .mov, [.t 46], none⟩])) <|
  .ops [
    ⟨some 47, .pur (.bin .add), [.t 38, .k (.i (1))], none⟩,
    ⟨some 38, .pur .mov, [.t 47], none⟩]
def f227b : ACode :=
  .seq (.ops [
    ⟨some 1, .box .reg, [.t 0], none⟩,
    ⟨some 2, .pur .mov, [.k (.s ⟨#[]⟩)], none⟩]) <|
  .seq (.ops [
    ⟨some 7, .pur (.faddr 0), [.t 1], none⟩,
    ⟨some 8, .ld (some 1) 1 false, [.t 7], none⟩,
    ⟨some 9, .pur (.iaddrA 3 11), [.g 0, .t 8], none⟩,
    ⟨some 10, .pur (.faddr 0), [.t 9], none⟩,
    ⟨some 11, .ld none 1 false, [.t 10], none⟩,
    ⟨some 3, .pur .mov, [.t 11], none⟩]) <|
  .seq (.seq (.ops [
    ⟨some 12, .pur (.faddr 1), [.t 1], none⟩,
    ⟨some 13, .ld (some 1) 1 false, [.t 12], none⟩,
    ⟨some 14, .pur (.bin .neq), [.t 13, .k (.s ⟨#[]⟩)], none⟩]) <|
  .cond (.t 14) (.ops [
      ⟨some 15, .pur .mov, [.t 3], none⟩,
      ⟨some 16, .pur (.faddr 1), [.t 1], none⟩,
      ⟨some 17, .ld (some 1) 1 false, [.t 16], none⟩,
      ⟨some 18, .pur .lenS, [.t 17], none⟩,
      ⟨some 19, .call 193, [.t 18], none⟩,
      ⟨some 20, .pur (.bin .add), [.t 19, .k (.s ⟨#[58]⟩)], none⟩,
      ⟨some 21, .pur (.faddr 1), [.t 1], none⟩,
      ⟨some 22, .ld (some 1) 1 false, [.t 21], none⟩,
      ⟨some 23, .pur (.bin .add), [.t 20, .t 22], none⟩,
      ⟨some 24, .pur (.bin .add), [.t 15, .t 23], none⟩,
      ⟨some 3, .pur .mov, [.t 24], none⟩]) (.skip)) <|
  .seq (.seq (.ops [
    ⟨some 25, .pur (.faddr 2), [.t 1], none⟩,
    ⟨some 26, .ld (some 1) 1 false, [.t 25], none⟩,
    ⟨some 27, .pur .lenL, [.t 26], none⟩,
    ⟨some 28, .pur (.bin .eql), [.t 27, .k (.i (0))], none⟩,
    ⟨some 29, .pur .mov, [.t 28], none⟩,
    ⟨some 30, .pur (.faddr 0), [.t 1], some (29, true)⟩,
    ⟨some 31, .ld (some 1) 1 false, [.t 30], some (29, true)⟩,
    ⟨some 32, .pur (.bin .neq), [.t 31, .k (.i (3))], some (29, true)⟩,
    ⟨some 33, .pur .pick, [.t 29, .t 32, .k (.b false)], none⟩]) <|
  .cond (.t 33) (.seq (.ops [
      ⟨some 34, .pur .mov, [.t 3], none⟩,
      ⟨some 2, .pur .mov, [.t 34], none⟩]) <|
    .ret) (.skip)) <|
  .seq (.ops [
    ⟨some 4, .pur .mov, [.k (.lst 0 true [])], none⟩]) <|
  .seq (.seq (.ops [
    ⟨some 35, .pur (.faddr 2), [.t 1], none⟩,
    ⟨some 36, .ld (some 1) 1 false, [.t 35], none⟩,
    ⟨some 37, .pur .lenL, [.t 36], none⟩,
    ⟨some 38, .pur .mov, [.k (.i (0))], none⟩]) <|
  .block 0 (.loop [6, 39, 40, 41, 42, 43, 44, 45, 46, 47] [6] f227_l0)) <|
  .seq (.ops [
    ⟨some 48, .pur .mov, [.t 3], none⟩,
    ⟨some 49, .pur (.bin .add), [.t 48, .k (.s ⟨#[40]⟩)], none⟩,
    ⟨some 50, .pur .mov, [.t 4], none⟩,
    ⟨some 51, .call 324, [.t 50, .k (.s ⟨#[44]⟩)], none⟩,
    ⟨some 52, .pur (.bin .add), [.t 49, .t 51], none⟩,
    ⟨some 53, .pur (.bin .add), [.t 52, .k (.s ⟨#[41]⟩)], none⟩,
    ⟨some 2, .pur .mov, [.t 53], none⟩]) <|
  .ret
def f227 : AFunc := ⟨54, f227b, [.tmp 2]⟩
/- 228 sluiceway/term.made -/
def f228b : ACode :=
  .seq (.ops [
    ⟨some 6, .alloc .reg [.i (0), .s ⟨#[]⟩, .lst 0 true []], [], none⟩]) <|
  .seq (.ops [
    ⟨some 7, .pur .mov, [.t 0], none⟩,
    ⟨some 8, .pur .mov, [.t 1], none⟩,
    ⟨some 9, .pur .mov, [.t 2], none⟩,
    ⟨some 10, .call 256, [.t 9], none⟩,
    ⟨some 11, .pur (.build [.i (0), .s ⟨#[]⟩, .lst 0 true []] [(0, 1), (1, 1), (2, 1)]), [.t 7, .t 8, .t 10], none⟩,
    ⟨none, .st (some 6) 3, [.t 6, .t 11], none⟩]) <|
  .ret
def f228 : AFunc := ⟨12, f228b, [.cell 6 3 true]⟩
/- 306 internal/stringslite.CutPrefix -/
def f306b : ACode :=
  .seq (.ops [
    ⟨some 4, .pur .mov, [.k (.s ⟨#[]⟩)], none⟩,
    ⟨some 5, .pur .mov, [.k (.b false)], none⟩]) <|
  .seq (.seq (.ops [
    ⟨some 6, .pur .mov, [.t 0], none⟩,
    ⟨some 7, .pur .mov, [.t 1], none⟩,
    ⟨some 8, .call 398, [.t 6, .t 7], none⟩,
    ⟨some 9, .pur (.un .not), [.t 8], none⟩]) <|
  .cond (.t 9) (.seq (.ops [
      ⟨some 10, .pur .mov, [.t 0], none⟩,
      ⟨some 4, .pur .mov, [.t 10], none⟩,
      ⟨some 5, .pur .mov, [.k (.b false)], none⟩]) <|
    .ret) (.skip)) <|
  .seq (.ops [
    ⟨some 11, .pur .mov, [.t 0], none⟩,
    ⟨some 12, .pur .mov, [.t 1], none⟩,
    ⟨some 13, .pur .lenS, [.t 12], none⟩,
    ⟨some 14, .pur (.sliceS true false), [.t 11, .t 13], none⟩,
    ⟨some 4, .pur .mov, [.t 14], none⟩,
    ⟨some 5, .pur .mov, [.k (.b true)], none⟩]) <|
  .ret
def f306 : AFunc := ⟨15, f306b, [.tmp 4, .tmp 5]⟩
/- 315 (sluiceway/cookie.body).text -/
def f315b : ACode :=
  .seq (.ops [
    ⟨some 3, .box .reg, [.t 0], none⟩,
    ⟨some 6, .pur .mov, [.k (.s ⟨#[]⟩)], none⟩]) <|
  .seq (.ops [
    ⟨some 10, .pur (.faddr 0), [.t 3], none⟩,
    ⟨some 11, .pur (.faddr 2), [.t 10], none⟩,
    ⟨some 12, .ld (some 3) 1 false, [.t 11], none⟩,
    ⟨some 13, .pur .mov, [.t 1], none⟩,
    ⟨some 14, .pur (.iaddr 3), [.t 12, .t 13], none⟩,
    ⟨some 15, .pur (.faddr 1), [.t 14], none⟩,
    ⟨some 16, .ld none 1 false, [.t 15], none⟩,
    ⟨some 17, .pur .mov, [.t 2], none⟩,
    ⟨some 18, .call 195, [.t 16, .t 17], none⟩,
    ⟨some 9, .pur .mov, [.t 18], none⟩,
    ⟨some 19, .pur (.extract 0), [.t 9], none⟩,
    ⟨some 20, .pur (.extract 1), [.t 9], none⟩,
    ⟨some 7, .pur .mov, [.t 19], none⟩,
    ⟨some 8, .pur .mov, [.t 20], none⟩]) <|
  .seq (.ops [
    ⟨some 21, .pur .mov, [.t 7], none⟩,
    ⟨some 6, .pur .mov, [.t 21], none⟩]) <|
  .ret
def f315 : AFunc := ⟨22, f315b, [.tmp 6]⟩
/- 319 sluiceway/term.known -/
def f319b : ACode :=
  .seq (.ops [
    ⟨some 1, .box .reg, [.t 0], none⟩,
    ⟨some 2, .pur .mov, [.k (.b false)], none⟩]) <|
  .seq (.ops [
    ⟨some 3, .pur (.faddr 0), [.t 1], none⟩,
    ⟨some 4, .ld (some 1) 1 false, [.t 3], none⟩,
    ⟨some 5, .pur (.bin .geq), [.t 4, .k (.i (1))], none⟩,
    ⟨some 6, .pur .mov, [.t 5], none⟩,
    ⟨some 7, .pur (.faddr 0), [.t 1], some (6, true)⟩,
    ⟨some 8, .ld (some 1) 1 false, [.t 7], some (6, true)⟩,
    ⟨some 9, .pur (.bin .leq), [.t 8, .k (.i (10))], some (6, true)⟩,
    ⟨some 10, .pur .pick, [.t 6, .t 9, .k (.b false)], none⟩,
    ⟨some 2, .pur .mov, [.t 10], none⟩]) <|
  .ret
def f319 : AFunc := ⟨11, f319b, [.tmp 2]⟩
/- 320 slices.ContainsFunc[[]sluiceway/api.Term,sluiceway/api.Term] -/
def f320b : ACode :=
  .seq (.ops [
    ⟨some 4, .pur .mov, [.k (.b false)], none⟩]) <|
  .seq (.ops [
    ⟨some 5, .pur .mov, [.t 0], none⟩,
    ⟨some 6, .pur .mov, [.t 1], none⟩,
    ⟨some 7, .call 408, [.t 5, .t 6], none⟩,
    ⟨some 8, .pur (.bin .geq), [.t 7, .k (.i (0))], none⟩,
    ⟨some 4, .pur .mov, [.t 8], none⟩]) <|
  .ret
def f320 : AFunc := ⟨9, f320b, [.tmp 4]⟩
/- 321 sluiceway/term.shape$1 -/
def f321b : ACode :=
  .seq (.ops [
    ⟨some 2, .box .reg, [.t 0], none⟩,
    ⟨some 3, .pur .mov, [.k (.b false)], none⟩]) <|
  .seq (.ops [
    ⟨some 4, .ld (some 2) 3 true, [.t 2], none⟩,
    ⟨some 5, .ld none 1 false, [.t 1], none⟩,
    ⟨some 6, .pur (.bin .sub), [.t 5, .k (.i (1))], none⟩,
    ⟨some 7, .call 221, [.t 4, .t 6], none⟩,
    ⟨some 8, .pur (.un .not), [.t 7], none⟩,
    ⟨some 3, .pur .mov, [.t 8], none⟩]) <|
  .ret
def f321 : AFunc := ⟨9, f321b, [.tmp 3]⟩
/- 322 sluiceway/term.ordered$1 -/
def f322b : ACode :=
  .seq (.ops [
    ⟨some 1, .box .reg, [.t 0], none⟩,
    ⟨some 2, .pur .mov, [.k (.b false)], none⟩]) <|
  .seq (.ops [
    ⟨some 3, .ld (some 1) 3 true, [.t 1], none⟩,
    ⟨some 4, .call 222, [.t 3], none⟩,
    ⟨some 5, .pur (.un .not), [.t 4], none⟩,
    ⟨some 2, .pur .mov, [.t 5], none⟩]) <|
  .ret
def f322 : AFunc := ⟨6, f322b, [.tmp 2]⟩
/- 398 internal/stringslite.HasPrefix -/
def f398b : ACode :=
  .seq (.ops [
    ⟨some 4, .pur .mov, [.k (.b false)], none⟩]) <|
  .seq (.ops [
    ⟨some 5, .pur .mov, [.t 0], none⟩,
    ⟨some 6, .pur .lenS, [.t 5], none⟩,
    ⟨some 7, .pur .mov, [.t 1], none⟩,
    ⟨some 8, .pur .lenS, [.t 7], none⟩,
    ⟨some 9, .pur (.bin .geq), [.t 6, .t 8], none⟩,
    ⟨some 10, .pur .mov, [.t 9], none⟩,
    ⟨some 11, .pur .mov, [.t 0], some (10, true)⟩,
    ⟨some 12, .pur .mov, [.t 1], some (10, true)⟩,
    ⟨some 13, .pur .lenS, [.t 12], some (10, true)⟩,
    ⟨some 14, .pur (.sliceS false true), [.t 11, .t 13], some (10, true)⟩,
    ⟨some 15, .pur .mov, [.t 1], some (10, true)⟩,
    ⟨some 16, .pur (.bin .eql), [.t 14, .t 15], some (10, true)⟩,
    ⟨some 17, .pur .pick, [.t 10, .t 16, .k (.b false)], none⟩,
    ⟨some 4, .pur .mov, [.t 17], none⟩]) <|
  .ret
def f398 : AFunc := ⟨18, f398b, [.tmp 4]⟩
/- 408 slices.IndexFunc[[]sluiceway/api.Term,sluiceway/api.Term] -/
def f408_l0 : ACode :=
  .seq (.ops [
    ⟨some 9, .pur (.bin .lss), [.t 8, .t 7], none⟩]) <|
  .seq (.cond (.t 9) (.skip) (.exit 0)) <|
  .seq (.block 1 (.seq (.ops [
      ⟨some 10, .pur .mov, [.t 8], none⟩,
      ⟨some 5, .pur .mov, [.t 10], none⟩]) <|
    .seq (.ops [
      ⟨some 11, .pur .mov, [.t 1], none⟩,
      ⟨some 12, .pur .mov, [.t 0], none⟩,
      ⟨some 13, .pur .mov, [.t 5], none⟩,
      ⟨some 14, .pur (.iaddr 3), [.t 12, .t 13], none⟩,
      ⟨some 15, .ld none 3 true, [.t 14], none⟩,
      ⟨some 16, .callv, [.t 11, .t 15], none⟩]) <|
    .cond (.t 16) (.seq (.ops [
        ⟨some 17, .pur .mov, [.t 5], none⟩,
        ⟨some 4, .pur .mov, [.t 17], none⟩]) <|
      .ret) (.skip))) <|
  .ops [
    ⟨some 18, .pur (.bin .add), [.t 8, .k (.i (1))], none⟩,
    ⟨some 8, .pur .mov, [.t 18], none⟩]
def f408b : ACode :=
  .seq (.ops [
    ⟨some 4, .pur .mov, [.k (.i (0))], none⟩]) <|
  .seq (.seq (.ops [
    ⟨some 6, .pur .mov, [.t 0], none⟩,
    ⟨some 7, .pur .lenL, [.t 6], none⟩,
    ⟨some 8, .pur .mov, [.k (.i (0))], none⟩]) <|
  .block 0 (.loop [4, 5, 9, 10, 11, 12, 13, 14, 15, 16, 17, 18] [] f408_l0)) <|
  .seq (.ops [
    ⟨some 4, .pur .mov, [.k (.i (-1))], none⟩]) <|
  .ret
def f408 : AFunc := ⟨19, f408b, [.tmp 4]⟩
end Abs
