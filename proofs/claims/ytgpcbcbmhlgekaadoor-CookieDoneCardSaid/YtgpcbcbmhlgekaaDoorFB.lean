/- CookieDone holds, whatever the input: what was done is kept in order. -/
import Derived.Test.YtgpcbcbmhlgekaaDoorSp
import Derived.Test.YtgpcbcbmhlgekaaDoorLw
import Derived.Test.YtgpcbcbmhlgekaaDoorSh
import Derived.Test.YtgpcbcbmhlgekaaDoorPr
import Derived.Test.YtgpcbcbmhlgekaaDoorE4
import Derived.Test.YtgpcbcbmhlgekaaDoorCards
import Derived.Test.YtgpcbcbmhlgekaaDoorTie
import Derived.Deep.DeepWitnessRowRef
import Derived.LaidMore
import Derived.OpenShut
import Derived.ProofKit
import Derived.KernelRfl
set_option linter.unusedVariables false
set_option linter.unusedSimpArgs false
set_option linter.unusedSectionVars false
namespace Go.Proofs.YtgpcbcbmhlgekaaDoor
open Go Abs Go.RowKit

def kindsW : List Value := [.string ⟨#[]⟩, .int .i64 (0), .bool false, .string ⟨#[100]⟩, .int .i64 (0), .bool true, .string ⟨#[97]⟩, .int .i64 (0), .bool true, .string ⟨#[112]⟩, .int .i64 (-1), .bool false, .string ⟨#[101]⟩, .int .i64 (2), .bool false, .string ⟨#[109]⟩, .int .i64 (2), .bool false, .string ⟨#[104]⟩, .int .i64 (1), .bool false, .string ⟨#[107]⟩, .int .i64 (1), .bool true, .string ⟨#[117]⟩, .int .i64 (1), .bool false, .string ⟨#[115]⟩, .int .i64 (2), .bool false, .string ⟨#[120]⟩, .int .i64 (2), .bool false]
def kt : Nat → Option Nat := fun k => List.lookup k [(12, 3), (13, 4), (15, 5), (16, 6), (17, 7), (18, 8), (20, 9), (21, 10), (22, 11), (23, 12), (24, 13), (59, 16), (60, 17), (61, 18), (62, 19), (63, 20), (64, 21), (65, 22), (66, 23), (67, 24), (68, 25), (69, 26), (70, 27), (71, 28), (72, 29), (73, 30), (74, 31), (75, 32), (76, 33), (77, 34), (78, 35), (79, 36), (80, 37), (81, 38), (82, 39), (83, 40), (84, 41), (85, 42), (86, 43), (87, 44), (88, 45), (89, 46), (90, 47), (91, 48), (92, 49), (93, 50), (94, 51), (95, 52), (96, 53), (97, 54), (107, 55), (108, 56), (109, 57), (110, 58), (111, 59), (112, 60), (113, 61), (114, 62), (115, 63), (116, 64), (117, 65), (118, 66), (121, 67), (122, 68), (123, 69), (124, 70), (125, 71), (126, 72), (127, 73), (128, 74), (130, 76), (139, 82), (142, 77), (161, 80), (191, 78), (192, 79), (194, 83), (195, 84), (209, 86), (210, 87), (211, 88), (212, 89), (213, 90), (214, 91), (215, 92), (216, 93), (217, 94), (218, 95), (219, 96), (220, 97), (221, 98), (222, 99), (223, 100), (224, 101), (227, 102), (228, 103), (229, 104), (243, 115), (249, 109), (304, 107), (306, 110), (314, 113), (315, 114), (316, 116), (317, 117), (318, 118), (319, 119), (320, 120), (321, 121), (322, 122), (346, 138), (347, 139), (398, 132), (408, 140), (419, 157), (420, 158), (1112, 60), (193, 81), (196, 85), (256, 124), (324, 123), (10000, 0), (10001, 2), (10002, 1), (10003, 3)]
theorem o12 : FnOk Tryd.prog kt mdA (fun k => (List.lookup k xsA).isSome) 12 f12 := .mk' (f := 3) (fn := Tryd.f3) rfl (by kernel_rfl) Tryd.func3 (by kernel_rfl)
theorem o13 : FnOk Tryd.prog kt mdA (fun k => (List.lookup k xsA).isSome) 13 f13 := .mk' (f := 4) (fn := Tryd.f4) rfl (by kernel_rfl) Tryd.func4 (by kernel_rfl)
theorem o15 : FnOk Tryd.prog kt mdA (fun k => (List.lookup k xsA).isSome) 15 f15 := .mk' (f := 5) (fn := Tryd.f5) rfl (by kernel_rfl) Tryd.func5 (by kernel_rfl)
theorem o16 : FnOk Tryd.prog kt mdA (fun k => (List.lookup k xsA).isSome) 16 f16 := .mk' (f := 6) (fn := Tryd.f6) rfl (by kernel_rfl) Tryd.func6 (by kernel_rfl)
theorem o17 : FnOk Tryd.prog kt mdA (fun k => (List.lookup k xsA).isSome) 17 f17 := .mk' (f := 7) (fn := Tryd.f7) rfl (by kernel_rfl) Tryd.func7 (by kernel_rfl)
theorem o18 : FnOk Tryd.prog kt mdA (fun k => (List.lookup k xsA).isSome) 18 f18 := .mk' (f := 8) (fn := Tryd.f8) rfl (by kernel_rfl) Tryd.func8 (by kernel_rfl)
theorem o20 : FnOk Tryd.prog kt mdA (fun k => (List.lookup k xsA).isSome) 20 f20 := .mk' (f := 9) (fn := Tryd.f9) rfl (by kernel_rfl) Tryd.func9 (by kernel_rfl)
theorem o21 : FnOk Tryd.prog kt mdA (fun k => (List.lookup k xsA).isSome) 21 f21 := .mk' (f := 10) (fn := Tryd.f10) rfl (by kernel_rfl) Tryd.func10 (by kernel_rfl)
theorem o22 : FnOk Tryd.prog kt mdA (fun k => (List.lookup k xsA).isSome) 22 f22 := .mk' (f := 11) (fn := Tryd.f11) rfl (by kernel_rfl) Tryd.func11 (by kernel_rfl)
theorem o23 : FnOk Tryd.prog kt mdA (fun k => (List.lookup k xsA).isSome) 23 f23 := .mk' (f := 12) (fn := Tryd.f12) rfl (by kernel_rfl) Tryd.func12 (by kernel_rfl)
theorem o24 : FnOk Tryd.prog kt mdA (fun k => (List.lookup k xsA).isSome) 24 f24 := .mk' (f := 13) (fn := Tryd.f13) rfl (by kernel_rfl) Tryd.func13 (by kernel_rfl)
theorem o59 : FnOk Tryd.prog kt mdA (fun k => (List.lookup k xsA).isSome) 59 f59 := .mk' (f := 16) (fn := Tryd.f16) rfl (by kernel_rfl) Tryd.func16 (by kernel_rfl)
theorem o60 : FnOk Tryd.prog kt mdA (fun k => (List.lookup k xsA).isSome) 60 f60 := .mk' (f := 17) (fn := Tryd.f17) rfl (by kernel_rfl) Tryd.func17 (by kernel_rfl)
theorem o61 : FnOk Tryd.prog kt mdA (fun k => (List.lookup k xsA).isSome) 61 f61 := .mk' (f := 18) (fn := Tryd.f18) rfl (by kernel_rfl) Tryd.func18 (by kernel_rfl)
theorem o62 : FnOk Tryd.prog kt mdA (fun k => (List.lookup k xsA).isSome) 62 f62 := .mk' (f := 19) (fn := Tryd.f19) rfl (by kernel_rfl) Tryd.func19 (by kernel_rfl)
theorem o63 : FnOk Tryd.prog kt mdA (fun k => (List.lookup k xsA).isSome) 63 f63 := .mk' (f := 20) (fn := Tryd.f20) rfl (by kernel_rfl) Tryd.func20 (by kernel_rfl)
theorem o64 : FnOk Tryd.prog kt mdA (fun k => (List.lookup k xsA).isSome) 64 f64 := .mk' (f := 21) (fn := Tryd.f21) rfl (by kernel_rfl) Tryd.func21 (by kernel_rfl)
theorem o65 : FnOk Tryd.prog kt mdA (fun k => (List.lookup k xsA).isSome) 65 f65 := .mk' (f := 22) (fn := Tryd.f22) rfl (by kernel_rfl) Tryd.func22 (by kernel_rfl)
theorem o66 : FnOk Tryd.prog kt mdA (fun k => (List.lookup k xsA).isSome) 66 f66 := .mk' (f := 23) (fn := Tryd.f23) rfl (by kernel_rfl) Tryd.func23 (by kernel_rfl)
theorem o67 : FnOk Tryd.prog kt mdA (fun k => (List.lookup k xsA).isSome) 67 f67 := .mk' (f := 24) (fn := Tryd.f24) rfl (by kernel_rfl) Tryd.func24 (by kernel_rfl)
theorem o68 : FnOk Tryd.prog kt mdA (fun k => (List.lookup k xsA).isSome) 68 f68 := .mk' (f := 25) (fn := Tryd.f25) rfl (by kernel_rfl) Tryd.func25 (by kernel_rfl)
theorem o69 : FnOk Tryd.prog kt mdA (fun k => (List.lookup k xsA).isSome) 69 f69 := .mk' (f := 26) (fn := Tryd.f26) rfl (by kernel_rfl) Tryd.func26 (by kernel_rfl)
theorem o70 : FnOk Tryd.prog kt mdA (fun k => (List.lookup k xsA).isSome) 70 f70 := .mk' (f := 27) (fn := Tryd.f27) rfl (by kernel_rfl) Tryd.func27 (by kernel_rfl)
theorem o71 : FnOk Tryd.prog kt mdA (fun k => (List.lookup k xsA).isSome) 71 f71 := .mk' (f := 28) (fn := Tryd.f28) rfl (by kernel_rfl) Tryd.func28 (by kernel_rfl)
theorem o72 : FnOk Tryd.prog kt mdA (fun k => (List.lookup k xsA).isSome) 72 f72 := .mk' (f := 29) (fn := Tryd.f29) rfl (by kernel_rfl) Tryd.func29 (by kernel_rfl)
theorem o73 : FnOk Tryd.prog kt mdA (fun k => (List.lookup k xsA).isSome) 73 f73 := .mk' (f := 30) (fn := Tryd.f30) rfl (by kernel_rfl) Tryd.func30 (by kernel_rfl)
theorem o74 : FnOk Tryd.prog kt mdA (fun k => (List.lookup k xsA).isSome) 74 f74 := .mk' (f := 31) (fn := Tryd.f31) rfl (by kernel_rfl) Tryd.func31 (by kernel_rfl)
theorem o75 : FnOk Tryd.prog kt mdA (fun k => (List.lookup k xsA).isSome) 75 f75 := .mk' (f := 32) (fn := Tryd.f32) rfl (by kernel_rfl) Tryd.func32 (by kernel_rfl)
theorem o76 : FnOk Tryd.prog kt mdA (fun k => (List.lookup k xsA).isSome) 76 f76 := .mk' (f := 33) (fn := Tryd.f33) rfl (by kernel_rfl) Tryd.func33 (by kernel_rfl)
theorem o77 : FnOk Tryd.prog kt mdA (fun k => (List.lookup k xsA).isSome) 77 f77 := .mk' (f := 34) (fn := Tryd.f34) rfl (by kernel_rfl) Tryd.func34 (by kernel_rfl)
theorem o78 : FnOk Tryd.prog kt mdA (fun k => (List.lookup k xsA).isSome) 78 f78 := .mk' (f := 35) (fn := Tryd.f35) rfl (by kernel_rfl) Tryd.func35 (by kernel_rfl)
theorem o79 : FnOk Tryd.prog kt mdA (fun k => (List.lookup k xsA).isSome) 79 f79 := .mk' (f := 36) (fn := Tryd.f36) rfl (by kernel_rfl) Tryd.func36 (by kernel_rfl)
theorem o80 : FnOk Tryd.prog kt mdA (fun k => (List.lookup k xsA).isSome) 80 f80 := .mk' (f := 37) (fn := Tryd.f37) rfl (by kernel_rfl) Tryd.func37 (by kernel_rfl)
theorem o81 : FnOk Tryd.prog kt mdA (fun k => (List.lookup k xsA).isSome) 81 f81 := .mk' (f := 38) (fn := Tryd.f38) rfl (by kernel_rfl) Tryd.func38 (by kernel_rfl)
theorem o82 : FnOk Tryd.prog kt mdA (fun k => (List.lookup k xsA).isSome) 82 f82 := .mk' (f := 39) (fn := Tryd.f39) rfl (by kernel_rfl) Tryd.func39 (by kernel_rfl)
theorem o83 : FnOk Tryd.prog kt mdA (fun k => (List.lookup k xsA).isSome) 83 f83 := .mk' (f := 40) (fn := Tryd.f40) rfl (by kernel_rfl) Tryd.func40 (by kernel_rfl)
theorem o84 : FnOk Tryd.prog kt mdA (fun k => (List.lookup k xsA).isSome) 84 f84 := .mk' (f := 41) (fn := Tryd.f41) rfl (by kernel_rfl) Tryd.func41 (by kernel_rfl)
theorem o85 : FnOk Tryd.prog kt mdA (fun k => (List.lookup k xsA).isSome) 85 f85 := .mk' (f := 42) (fn := Tryd.f42) rfl (by kernel_rfl) Tryd.func42 (by kernel_rfl)
theorem o86 : FnOk Tryd.prog kt mdA (fun k => (List.lookup k xsA).isSome) 86 f86 := .mk' (f := 43) (fn := Tryd.f43) rfl (by kernel_rfl) Tryd.func43 (by kernel_rfl)
theorem o87 : FnOk Tryd.prog kt mdA (fun k => (List.lookup k xsA).isSome) 87 f87 := .mk' (f := 44) (fn := Tryd.f44) rfl (by kernel_rfl) Tryd.func44 (by kernel_rfl)
theorem o88 : FnOk Tryd.prog kt mdA (fun k => (List.lookup k xsA).isSome) 88 f88 := .mk' (f := 45) (fn := Tryd.f45) rfl (by kernel_rfl) Tryd.func45 (by kernel_rfl)
theorem o89 : FnOk Tryd.prog kt mdA (fun k => (List.lookup k xsA).isSome) 89 f89 := .mk' (f := 46) (fn := Tryd.f46) rfl (by kernel_rfl) Tryd.func46 (by kernel_rfl)
theorem o90 : FnOk Tryd.prog kt mdA (fun k => (List.lookup k xsA).isSome) 90 f90 := .mk' (f := 47) (fn := Tryd.f47) rfl (by kernel_rfl) Tryd.func47 (by kernel_rfl)
theorem o91 : FnOk Tryd.prog kt mdA (fun k => (List.lookup k xsA).isSome) 91 f91 := .mk' (f := 48) (fn := Tryd.f48) rfl (by kernel_rfl) Tryd.func48 (by kernel_rfl)
theorem o92 : FnOk Tryd.prog kt mdA (fun k => (List.lookup k xsA).isSome) 92 f92 := .mk' (f := 49) (fn := Tryd.f49) rfl (by kernel_rfl) Tryd.func49 (by kernel_rfl)
theorem o93 : FnOk Tryd.prog kt mdA (fun k => (List.lookup k xsA).isSome) 93 f93 := .mk' (f := 50) (fn := Tryd.f50) rfl (by kernel_rfl) Tryd.func50 (by kernel_rfl)
theorem o94 : FnOk Tryd.prog kt mdA (fun k => (List.lookup k xsA).isSome) 94 f94 := .mk' (f := 51) (fn := Tryd.f51) rfl (by kernel_rfl) Tryd.func51 (by kernel_rfl)
theorem o95 : FnOk Tryd.prog kt mdA (fun k => (List.lookup k xsA).isSome) 95 f95 := .mk' (f := 52) (fn := Tryd.f52) rfl (by kernel_rfl) Tryd.func52 (by kernel_rfl)
theorem o96 : FnOk Tryd.prog kt mdA (fun k => (List.lookup k xsA).isSome) 96 f96 := .mk' (f := 53) (fn := Tryd.f53) rfl (by kernel_rfl) Tryd.func53 (by kernel_rfl)
theorem o97 : FnOk Tryd.prog kt mdA (fun k => (List.lookup k xsA).isSome) 97 f97 := .mk' (f := 54) (fn := Tryd.f54) rfl (by kernel_rfl) Tryd.func54 (by kernel_rfl)
theorem o107 : FnOk Tryd.prog kt mdA (fun k => (List.lookup k xsA).isSome) 107 f107 := .mk' (f := 55) (fn := Tryd.f55) rfl (by kernel_rfl) Tryd.func55 (by kernel_rfl)
theorem o108 : FnOk Tryd.prog kt mdA (fun k => (List.lookup k xsA).isSome) 108 f108 := .mk' (f := 56) (fn := Tryd.f56) rfl (by kernel_rfl) Tryd.func56 (by kernel_rfl)
theorem o109 : FnOk Tryd.prog kt mdA (fun k => (List.lookup k xsA).isSome) 109 f109 := .mk' (f := 57) (fn := Tryd.f57) rfl (by kernel_rfl) Tryd.func57 (by kernel_rfl)
theorem o110 : FnOk Tryd.prog kt mdA (fun k => (List.lookup k xsA).isSome) 110 f110 := .mk' (f := 58) (fn := Tryd.f58) rfl (by kernel_rfl) Tryd.func58 (by kernel_rfl)
theorem o111 : FnOk Tryd.prog kt mdA (fun k => (List.lookup k xsA).isSome) 111 f111 := .mk' (f := 59) (fn := Tryd.f59) rfl (by kernel_rfl) Tryd.func59 (by kernel_rfl)
theorem o112 : FnOk Tryd.prog kt mdA (fun k => (List.lookup k xsA).isSome) 112 f112 := .mk' (f := 60) (fn := Tryd.f60) rfl (by kernel_rfl) Tryd.func60 (by kernel_rfl)
theorem o113 : FnOk Tryd.prog kt mdA (fun k => (List.lookup k xsA).isSome) 113 f113 := .mk' (f := 61) (fn := Tryd.f61) rfl (by kernel_rfl) Tryd.func61 (by kernel_rfl)
theorem o114 : FnOk Tryd.prog kt mdA (fun k => (List.lookup k xsA).isSome) 114 f114 := .mk' (f := 62) (fn := Tryd.f62) rfl (by kernel_rfl) Tryd.func62 (by kernel_rfl)
theorem o115 : FnOk Tryd.prog kt mdA (fun k => (List.lookup k xsA).isSome) 115 f115 := .mk' (f := 63) (fn := Tryd.f63) rfl (by kernel_rfl) Tryd.func63 (by kernel_rfl)
theorem o116 : FnOk Tryd.prog kt mdA (fun k => (List.lookup k xsA).isSome) 116 f116 := .mk' (f := 64) (fn := Tryd.f64) rfl (by kernel_rfl) Tryd.func64 (by kernel_rfl)
theorem o117 : FnOk Tryd.prog kt mdA (fun k => (List.lookup k xsA).isSome) 117 f117 := .mk' (f := 65) (fn := Tryd.f65) rfl (by kernel_rfl) Tryd.func65 (by kernel_rfl)
theorem o118 : FnOk Tryd.prog kt mdA (fun k => (List.lookup k xsA).isSome) 118 f118 := .mk' (f := 66) (fn := Tryd.f66) rfl (by kernel_rfl) Tryd.func66 (by kernel_rfl)
theorem o121 : FnOk Tryd.prog kt mdA (fun k => (List.lookup k xsA).isSome) 121 f121 := .mk' (f := 67) (fn := Tryd.f67) rfl (by kernel_rfl) Tryd.func67 (by kernel_rfl)
theorem o122 : FnOk Tryd.prog kt mdA (fun k => (List.lookup k xsA).isSome) 122 f122 := .mk' (f := 68) (fn := Tryd.f68) rfl (by kernel_rfl) Tryd.func68 (by kernel_rfl)
theorem o123 : FnOk Tryd.prog kt mdA (fun k => (List.lookup k xsA).isSome) 123 f123 := .mk' (f := 69) (fn := Tryd.f69) rfl (by kernel_rfl) Tryd.func69 (by kernel_rfl)
theorem o124 : FnOk Tryd.prog kt mdA (fun k => (List.lookup k xsA).isSome) 124 f124 := .mk' (f := 70) (fn := Tryd.f70) rfl (by kernel_rfl) Tryd.func70 (by kernel_rfl)
theorem o125 : FnOk Tryd.prog kt mdA (fun k => (List.lookup k xsA).isSome) 125 f125 := .mk' (f := 71) (fn := Tryd.f71) rfl (by kernel_rfl) Tryd.func71 (by kernel_rfl)
theorem o126 : FnOk Tryd.prog kt mdA (fun k => (List.lookup k xsA).isSome) 126 f126 := .mk' (f := 72) (fn := Tryd.f72) rfl (by kernel_rfl) Tryd.func72 (by kernel_rfl)
theorem o127 : FnOk Tryd.prog kt mdA (fun k => (List.lookup k xsA).isSome) 127 f127 := .mk' (f := 73) (fn := Tryd.f73) rfl (by kernel_rfl) Tryd.func73 (by kernel_rfl)
theorem o128 : FnOk Tryd.prog kt mdA (fun k => (List.lookup k xsA).isSome) 128 f128 := .mk' (f := 74) (fn := Tryd.f74) rfl (by kernel_rfl) Tryd.func74 (by kernel_rfl)
theorem o130 : FnOk Tryd.prog kt mdA (fun k => (List.lookup k xsA).isSome) 130 f130 := .mk' (f := 76) (fn := Tryd.f76) rfl (by kernel_rfl) Tryd.func76 (by kernel_rfl)
theorem o139 : FnOk Tryd.prog kt mdA (fun k => (List.lookup k xsA).isSome) 139 f139 := .mk' (f := 82) (fn := Tryd.f82) rfl (by kernel_rfl) Tryd.func82 (by kernel_rfl)
theorem o142 : FnOk Tryd.prog kt mdA (fun k => (List.lookup k xsA).isSome) 142 f142 := .mk' (f := 77) (fn := Tryd.f77) rfl (by kernel_rfl) Tryd.func77 (by kernel_rfl)
theorem o161 : FnOk Tryd.prog kt mdA (fun k => (List.lookup k xsA).isSome) 161 f161 := .mk' (f := 80) (fn := Tryd.f80) rfl (by kernel_rfl) Tryd.func80 (by kernel_rfl)
theorem o191 : FnOk Tryd.prog kt mdA (fun k => (List.lookup k xsA).isSome) 191 f191 := .mk' (f := 78) (fn := Tryd.f78) rfl (by kernel_rfl) Tryd.func78 (by kernel_rfl)
theorem o192 : FnOk Tryd.prog kt mdA (fun k => (List.lookup k xsA).isSome) 192 f192 := .mk' (f := 79) (fn := Tryd.f79) rfl (by kernel_rfl) Tryd.func79 (by kernel_rfl)
theorem o194 : FnOk Tryd.prog kt mdA (fun k => (List.lookup k xsA).isSome) 194 f194 := .mk' (f := 83) (fn := Tryd.f83) rfl (by kernel_rfl) Tryd.func83 (by kernel_rfl)
theorem o195 : FnOk Tryd.prog kt mdA (fun k => (List.lookup k xsA).isSome) 195 f195 := .mk' (f := 84) (fn := Tryd.f84) rfl (by kernel_rfl) Tryd.func84 (by kernel_rfl)
theorem o209 : FnOk Tryd.prog kt mdA (fun k => (List.lookup k xsA).isSome) 209 f209 := .mk' (f := 86) (fn := Tryd.f86) rfl (by kernel_rfl) Tryd.func86 (by kernel_rfl)
theorem o210 : FnOk Tryd.prog kt mdA (fun k => (List.lookup k xsA).isSome) 210 f210 := .mk' (f := 87) (fn := Tryd.f87) rfl (by kernel_rfl) Tryd.func87 (by kernel_rfl)
theorem o211 : FnOk Tryd.prog kt mdA (fun k => (List.lookup k xsA).isSome) 211 f211 := .mk' (f := 88) (fn := Tryd.f88) rfl (by kernel_rfl) Tryd.func88 (by kernel_rfl)
theorem o212 : FnOk Tryd.prog kt mdA (fun k => (List.lookup k xsA).isSome) 212 f212 := .mk' (f := 89) (fn := Tryd.f89) rfl (by kernel_rfl) Tryd.func89 (by kernel_rfl)
theorem o213 : FnOk Tryd.prog kt mdA (fun k => (List.lookup k xsA).isSome) 213 f213 := .mk' (f := 90) (fn := Tryd.f90) rfl (by kernel_rfl) Tryd.func90 (by kernel_rfl)
theorem o214 : FnOk Tryd.prog kt mdA (fun k => (List.lookup k xsA).isSome) 214 f214 := .mk' (f := 91) (fn := Tryd.f91) rfl (by kernel_rfl) Tryd.func91 (by kernel_rfl)
theorem o215 : FnOk Tryd.prog kt mdA (fun k => (List.lookup k xsA).isSome) 215 f215 := .mk' (f := 92) (fn := Tryd.f92) rfl (by kernel_rfl) Tryd.func92 (by kernel_rfl)
theorem o216 : FnOk Tryd.prog kt mdA (fun k => (List.lookup k xsA).isSome) 216 f216 := .mk' (f := 93) (fn := Tryd.f93) rfl (by kernel_rfl) Tryd.func93 (by kernel_rfl)
theorem o217 : FnOk Tryd.prog kt mdA (fun k => (List.lookup k xsA).isSome) 217 f217 := .mk' (f := 94) (fn := Tryd.f94) rfl (by kernel_rfl) Tryd.func94 (by kernel_rfl)
theorem o218 : FnOk Tryd.prog kt mdA (fun k => (List.lookup k xsA).isSome) 218 f218 := .mk' (f := 95) (fn := Tryd.f95) rfl (by kernel_rfl) Tryd.func95 (by kernel_rfl)
theorem o219 : FnOk Tryd.prog kt mdA (fun k => (List.lookup k xsA).isSome) 219 f219 := .mk' (f := 96) (fn := Tryd.f96) rfl (by kernel_rfl) Tryd.func96 (by kernel_rfl)
theorem o220 : FnOk Tryd.prog kt mdA (fun k => (List.lookup k xsA).isSome) 220 f220 := .mk' (f := 97) (fn := Tryd.f97) rfl (by kernel_rfl) Tryd.func97 (by kernel_rfl)
theorem o221 : FnOk Tryd.prog kt mdA (fun k => (List.lookup k xsA).isSome) 221 f221 := .mk' (f := 98) (fn := Tryd.f98) rfl (by kernel_rfl) Tryd.func98 (by kernel_rfl)
theorem o222 : FnOk Tryd.prog kt mdA (fun k => (List.lookup k xsA).isSome) 222 f222 := .mk' (f := 99) (fn := Tryd.f99) rfl (by kernel_rfl) Tryd.func99 (by kernel_rfl)
theorem o223 : FnOk Tryd.prog kt mdA (fun k => (List.lookup k xsA).isSome) 223 f223 := .mk' (f := 100) (fn := Tryd.f100) rfl (by kernel_rfl) Tryd.func100 (by kernel_rfl)
theorem o224 : FnOk Tryd.prog kt mdA (fun k => (List.lookup k xsA).isSome) 224 f224 := .mk' (f := 101) (fn := Tryd.f101) rfl (by kernel_rfl) Tryd.func101 (by kernel_rfl)
theorem o227 : FnOk Tryd.prog kt mdA (fun k => (List.lookup k xsA).isSome) 227 f227 := .mk' (f := 102) (fn := Tryd.f102) rfl (by kernel_rfl) Tryd.func102 (by kernel_rfl)
theorem o228 : FnOk Tryd.prog kt mdA (fun k => (List.lookup k xsA).isSome) 228 f228 := .mk' (f := 103) (fn := Tryd.f103) rfl (by kernel_rfl) Tryd.func103 (by kernel_rfl)
theorem o229 : FnOk Tryd.prog kt mdA (fun k => (List.lookup k xsA).isSome) 229 f229 := .mk' (f := 104) (fn := Tryd.f104) rfl (by kernel_rfl) Tryd.func104 (by kernel_rfl)
theorem o243 : FnOk Tryd.prog kt mdA (fun k => (List.lookup k xsA).isSome) 243 f243 := .mk' (f := 115) (fn := Tryd.f115) rfl (by kernel_rfl) Tryd.func115 (by kernel_rfl)
theorem o249 : FnOk Tryd.prog kt mdA (fun k => (List.lookup k xsA).isSome) 249 f249 := .mk' (f := 109) (fn := Tryd.f109) rfl (by kernel_rfl) Tryd.func109 (by kernel_rfl)
theorem o304 : FnOk Tryd.prog kt mdA (fun k => (List.lookup k xsA).isSome) 304 f304 := .mk' (f := 107) (fn := Tryd.f107) rfl (by kernel_rfl) Tryd.func107 (by kernel_rfl)
theorem o306 : FnOk Tryd.prog kt mdA (fun k => (List.lookup k xsA).isSome) 306 f306 := .mk' (f := 110) (fn := Tryd.f110) rfl (by kernel_rfl) Tryd.func110 (by kernel_rfl)
theorem o314 : FnOk Tryd.prog kt mdA (fun k => (List.lookup k xsA).isSome) 314 f314 := .mk' (f := 113) (fn := Tryd.f113) rfl (by kernel_rfl) Tryd.func113 (by kernel_rfl)
theorem o315 : FnOk Tryd.prog kt mdA (fun k => (List.lookup k xsA).isSome) 315 f315 := .mk' (f := 114) (fn := Tryd.f114) rfl (by kernel_rfl) Tryd.func114 (by kernel_rfl)
theorem o316 : FnOk Tryd.prog kt mdA (fun k => (List.lookup k xsA).isSome) 316 f316 := .mk' (f := 116) (fn := Tryd.f116) rfl (by kernel_rfl) Tryd.func116 (by kernel_rfl)
theorem o317 : FnOk Tryd.prog kt mdA (fun k => (List.lookup k xsA).isSome) 317 f317 := .mk' (f := 117) (fn := Tryd.f117) rfl (by kernel_rfl) Tryd.func117 (by kernel_rfl)
theorem o318 : FnOk Tryd.prog kt mdA (fun k => (List.lookup k xsA).isSome) 318 f318 := .mk' (f := 118) (fn := Tryd.f118) rfl (by kernel_rfl) Tryd.func118 (by kernel_rfl)
theorem o319 : FnOk Tryd.prog kt mdA (fun k => (List.lookup k xsA).isSome) 319 f319 := .mk' (f := 119) (fn := Tryd.f119) rfl (by kernel_rfl) Tryd.func119 (by kernel_rfl)
theorem o320 : FnOk Tryd.prog kt mdA (fun k => (List.lookup k xsA).isSome) 320 f320 := .mk' (f := 120) (fn := Tryd.f120) rfl (by kernel_rfl) Tryd.func120 (by kernel_rfl)
theorem o321 : FnOk Tryd.prog kt mdA (fun k => (List.lookup k xsA).isSome) 321 f321 := .mk' (f := 121) (fn := Tryd.f121) rfl (by kernel_rfl) Tryd.func121 (by kernel_rfl)
theorem o322 : FnOk Tryd.prog kt mdA (fun k => (List.lookup k xsA).isSome) 322 f322 := .mk' (f := 122) (fn := Tryd.f122) rfl (by kernel_rfl) Tryd.func122 (by kernel_rfl)
theorem o346 : FnOk Tryd.prog kt mdA (fun k => (List.lookup k xsA).isSome) 346 f346 := .mk' (f := 138) (fn := Tryd.f138) rfl (by kernel_rfl) Tryd.func138 (by kernel_rfl)
theorem o347 : FnOk Tryd.prog kt mdA (fun k => (List.lookup k xsA).isSome) 347 f347 := .mk' (f := 139) (fn := Tryd.f139) rfl (by kernel_rfl) Tryd.func139 (by kernel_rfl)
theorem o398 : FnOk Tryd.prog kt mdA (fun k => (List.lookup k xsA).isSome) 398 f398 := .mk' (f := 132) (fn := Tryd.f132) rfl (by kernel_rfl) Tryd.func132 (by kernel_rfl)
theorem o408 : FnOk Tryd.prog kt mdA (fun k => (List.lookup k xsA).isSome) 408 f408 := .mk' (f := 140) (fn := Tryd.f140) rfl (by kernel_rfl) Tryd.func140 (by kernel_rfl)
theorem o419 : FnOk Tryd.prog kt mdA (fun k => (List.lookup k xsA).isSome) 419 f419 := .mk' (f := 157) (fn := Tryd.f157) rfl (by kernel_rfl) Tryd.func157 (by kernel_rfl)
theorem o420 : FnOk Tryd.prog kt mdA (fun k => (List.lookup k xsA).isSome) 420 f420 := .mk' (f := 158) (fn := Tryd.f158) rfl (by kernel_rfl) Tryd.func158 (by kernel_rfl)
theorem o1112 : FnOk Tryd.prog kt mdA (fun k => (List.lookup k xsA).isSome) 1112 f112 := .mk' (f := 60) (fn := Tryd.f60) rfl (by kernel_rfl) Tryd.func60 (by kernel_rfl)
theorem fo : AllFn Tryd.prog kt mdA (fun k => (List.lookup k xsA).isSome) fsA := .cons o12 (.cons o13 (.cons o15 (.cons o16 (.cons o17 (.cons o18 (.cons o20 (.cons o21 (.cons o22 (.cons o23 (.cons o24 (.cons o59 (.cons o60 (.cons o61 (.cons o62 (.cons o63 (.cons o64 (.cons o65 (.cons o66 (.cons o67 (.cons o68 (.cons o69 (.cons o70 (.cons o71 (.cons o72 (.cons o73 (.cons o74 (.cons o75 (.cons o76 (.cons o77 (.cons o78 (.cons o79 (.cons o80 (.cons o81 (.cons o82 (.cons o83 (.cons o84 (.cons o85 (.cons o86 (.cons o87 (.cons o88 (.cons o89 (.cons o90 (.cons o91 (.cons o92 (.cons o93 (.cons o94 (.cons o95 (.cons o96 (.cons o97 (.cons o107 (.cons o108 (.cons o109 (.cons o110 (.cons o111 (.cons o112 (.cons o113 (.cons o114 (.cons o115 (.cons o116 (.cons o117 (.cons o118 (.cons o121 (.cons o122 (.cons o123 (.cons o124 (.cons o125 (.cons o126 (.cons o127 (.cons o128 (.cons o130 (.cons o139 (.cons o142 (.cons o161 (.cons o191 (.cons o192 (.cons o194 (.cons o195 (.cons o209 (.cons o210 (.cons o211 (.cons o212 (.cons o213 (.cons o214 (.cons o215 (.cons o216 (.cons o217 (.cons o218 (.cons o219 (.cons o220 (.cons o221 (.cons o222 (.cons o223 (.cons o224 (.cons o227 (.cons o228 (.cons o229 (.cons o243 (.cons o249 (.cons o304 (.cons o306 (.cons o314 (.cons o315 (.cons o316 (.cons o317 (.cons o318 (.cons o319 (.cons o320 (.cons o321 (.cons o322 (.cons o346 (.cons o347 (.cons o398 (.cons o408 (.cons o419 (.cons o420 (.cons o1112 (.nil)))))))))))))))))))))))))))))))))))))))))))))))))))))))))))))))))))))))))))))))))))))))))))))))))))))))))))))))))))))
theorem x193 : ExOk Tryd.prog AA kt 193 itoaG := .mk' (f := 81) rfl (by kernel_rfl) (itoa_ok (f := 81) ⟨fun n h0 h1 w h => Tryd.strconv_Itoa n h0 h1 w h⟩ rfl rfl (by kernel_rfl)) (fun _ _ _ _ h _ => itoaG_low h)
theorem atoiC : AtoiC Tryd.prog 85 where
      ok s hs v h w := (Tryd.strconv_Atoi_ok s hs v h w).mono fun e w' ⟨h1, h2⟩ => ⟨h1, below_bytes h2⟩
      syn s hs h tp p w hv := (Tryd.strconv_Atoi_syntax_var s hs h tp p w hv).mono fun e w' ⟨N, h1, _, _, h2⟩ => ⟨_, _, h1, h2⟩
      rng s hs h tp p w hv := (Tryd.strconv_Atoi_range_var s hs h tp p w hv).mono fun e w' ⟨N, h1, _, _, h2⟩ => ⟨_, _, h1, h2⟩
theorem x196 : ExOk Tryd.prog AA kt 196 atoiG := .mk' (f := 85) rfl (by kernel_rfl) (atoi_ok (f := 85) atoiC rfl rfl (by kernel_rfl) rfl rfl (by kernel_rfl)) (fun _ _ _ _ h _ => atoiG_low h)
theorem x256 : ExOk Tryd.prog AA kt 256 (cloneG 3 48) := .mk' (f := 124) rfl (by kernel_rfl) (clone_ext (f := 124) (fn := Tryd.f124) Tryd.func124 (zero := [.i 0, .s ⟨#[]⟩, .lst 0 true []]) (by kernel_rfl) (by decide) (by kernel_rfl) (by kernel_rfl)) (fun _ _ _ _ h hn => cloneG_low h hn)
theorem x324 : ExOk Tryd.prog AA kt 324 joinG := .mk' (f := 123) rfl (by kernel_rfl) (join_ok (f := 123) ⟨fun a c sep w => Tryd.strings_Join_none a c sep w, fun bk o c xs sep w h1 h2 h3 h4 h5 => Tryd.strings_Join bk o c xs sep w h1 h2 h3 h4 h5⟩) (fun _ _ _ _ h _ => joinG_low h)
theorem xo : AllEx Tryd.prog AA kt xsA := .cons x193 (.cons x196 (.cons x256 (.cons x324 (.nil))))
theorem ok : Ok Tryd.prog AA kt := prog_ok fo xo
theorem own : ownKnob Tryd.prog.godebug = none := by kernel_rfl
theorem lo : laidOutB Tryd.prog = true := by kernel_rfl
theorem pl : plainSet Tryd.prog [3, 4, 9, 22, 24, 25] = true := by kernel_rfl
abbrev laid0 : List (String × DataW Unit) := Rows.cookieDoneRow.laid
theorem laid0_plain : (laid0.all fun x => x.2.handleName?.isNone) = true := by kernel_rfl
theorem glob_ok {W : World} (h : laidMetH Tryd.prog laid0 W) : Glob AA (G0 kt W) W
  | 0, v, hg, m, hm => by
        have hm : some 0 = some m := hm
        cases hm; cases hg
        exact glob_flat (laid_flat (g := 0) (L := [3, 4, 9, 107, 108]) (vs := kindsW) (t := 108) h laid0_plain (.tail _ (.tail _ (.tail _ (.tail _ (.tail _ (.head _)))))) (by kernel_rfl) (by kernel_rfl) (by kernel_rfl) (by kernel_rfl) (by kernel_rfl)) (n := "sluiceway/term.kinds") (by kernel_rfl) (by kernel_rfl)
  | 1, v, hg, m, hm => by
        have hm : some 2 = some m := hm
        cases hm; cases hg
        exact glob_err (laid_iface (g := 2) (t := 82) h laid0_plain (.tail _ (.tail _ (.tail _ (.head _)))) (by kernel_rfl) (by kernel_rfl) (by kernel_rfl)) (n := "strconv.ErrRange") (by kernel_rfl)
  | 2, v, hg, m, hm => by
        have hm : some 1 = some m := hm
        cases hm; cases hg
        exact glob_err (laid_iface (g := 1) (t := 82) h laid0_plain (.tail _ (.tail _ (.tail _ (.tail _ (.head _))))) (by kernel_rfl) (by kernel_rfl) (by kernel_rfl)) (n := "strconv.ErrSyntax") (by kernel_rfl)
  | 3, v, hg, m, hm => by
        have hm : some 3 = some m := hm
        cases hm; cases hg
        exact glob_flat (laid_flat (g := 3) (L := [140, 155]) (vs := pow10V) (t := 155) h laid0_plain (.tail _ (.tail _ (.head _))) (by kernel_rfl) (by kernel_rfl) (by kernel_rfl) (by kernel_rfl) (by kernel_rfl)) (n := "internal/strconv.uint64pow10") (by kernel_rfl) (by kernel_rfl)
  | _ + 4, v, hg, m, hm => by cases hg
theorem hT : ∃ fs, TermTy Tryd.prog 24 3 9 22 fs := ⟨_, Tryd.underlying24, rfl, Tryd.underlying3, Tryd.underlying9, Tryd.underlying22, by kernel_rfl, by kernel_rfl⟩
theorem door_met (os : Os) (args : Array Value) : laidMetH Tryd.prog laid0 ((World.doorLaid Tryd.prog 80 os).forCall (fun _ _ => 0) ⟨#[], args, []⟩).memory :=
      laidMetH_of_parts3 (fuel := 8) (laidMet_of_run' 8 (by kernel_rfl) (by kernel_rfl)) (by kernel_rfl) (by kernel_rfl)
theorem rb : reachBytes = 140737488351232 := rfl
end Go.Proofs.YtgpcbcbmhlgekaaDoor
