/- MechHides holds, whatever the input of bulk at most 1048576: of what is seen of SPAKE neither the base is known nor can a guess be checked; of a challenge under known armor one can. -/
import Derived.Test.YtpmgdaoofalpnaaGreatDoorSr
import Derived.Test.YtpmgdaoofalpnaaGreatDoorSh
import Derived.Test.YtpmgdaoofalpnaaGreatDoorPr
import Derived.Test.YtpmgdaoofalpnaaGreatDoorE4
import Derived.Test.YtpmgdaoofalpnaaGreatDoorCards
import Derived.Test.YtpmgdaoofalpnaaGreatDoorTie
import Derived.Deep.DeepWitnessRowRef
import Derived.LaidMore
import Derived.OpenShut
import Derived.ProofKit
import Derived.KernelRfl
set_option linter.unusedVariables false
set_option linter.unusedSimpArgs false
set_option linter.unusedSectionVars false
namespace Go.Proofs.YtpmgdaoofalpnaaGreatDoor
open Go Abs Go.RowKit

def kindsW : List Value := [.string ⟨#[]⟩, .int .i64 (0), .bool false, .string ⟨#[100]⟩, .int .i64 (0), .bool true, .string ⟨#[97]⟩, .int .i64 (0), .bool true, .string ⟨#[112]⟩, .int .i64 (-1), .bool false, .string ⟨#[101]⟩, .int .i64 (2), .bool false, .string ⟨#[109]⟩, .int .i64 (2), .bool false, .string ⟨#[104]⟩, .int .i64 (1), .bool false, .string ⟨#[107]⟩, .int .i64 (1), .bool true, .string ⟨#[117]⟩, .int .i64 (1), .bool false, .string ⟨#[115]⟩, .int .i64 (2), .bool false, .string ⟨#[120]⟩, .int .i64 (2), .bool false]
def kt : Nat → Option Nat := fun k => List.lookup k [(37, 8), (61, 14), (62, 32), (64, 75), (66, 33), (78, 37), (81, 81), (85, 82), (87, 39), (116, 64), (118, 40), (121, 69), (124, 34), (125, 91), (126, 72), (127, 95), (128, 78), (129, 30), (130, 62), (139, 55), (144, 29), (145, 28), (146, 9), (148, 12), (149, 13), (152, 17), (153, 18), (154, 19), (155, 20), (156, 21), (157, 22), (158, 23), (159, 24), (161, 26), (162, 27), (191, 73), (192, 74), (194, 119), (195, 120), (221, 104), (222, 105), (224, 84), (227, 108), (228, 77), (229, 102), (230, 71), (231, 68), (249, 96), (254, 63), (255, 65), (257, 67), (258, 70), (259, 54), (261, 35), (262, 36), (263, 38), (264, 41), (269, 50), (270, 51), (271, 52), (272, 53), (273, 56), (275, 58), (276, 59), (277, 60), (278, 61), (304, 116), (306, 150), (312, 118), (319, 135), (320, 136), (321, 137), (322, 138), (325, 114), (326, 115), (327, 106), (328, 107), (350, 80), (354, 79), (355, 103), (356, 109), (357, 110), (358, 111), (359, 112), (360, 92), (361, 113), (363, 93), (364, 94), (365, 97), (367, 100), (368, 101), (398, 171), (408, 162), (412, 145), (413, 146), (414, 147), (415, 148), (423, 140), (424, 141), (425, 142), (426, 143), (427, 144), (465, 166), (193, 76), (196, 83), (256, 66), (274, 57), (324, 139), (10000, 0), (10001, 2), (10002, 1), (10003, 3)]
theorem o37 : FnOk Tryz.prog kt mdA (fun k => (List.lookup k xsA).isSome) 37 f37 := .mk' (f := 8) (fn := Tryz.f8) rfl (by kernel_rfl) Tryz.func8 (by kernel_rfl)
theorem o61 : FnOk Tryz.prog kt mdA (fun k => (List.lookup k xsA).isSome) 61 f61 := .mk' (f := 14) (fn := Tryz.f14) rfl (by kernel_rfl) Tryz.func14 (by kernel_rfl)
theorem o62 : FnOk Tryz.prog kt mdA (fun k => (List.lookup k xsA).isSome) 62 f62 := .mk' (f := 32) (fn := Tryz.f32) rfl (by kernel_rfl) Tryz.func32 (by kernel_rfl)
theorem o64 : FnOk Tryz.prog kt mdA (fun k => (List.lookup k xsA).isSome) 64 f64 := .mk' (f := 75) (fn := Tryz.f75) rfl (by kernel_rfl) Tryz.func75 (by kernel_rfl)
theorem o66 : FnOk Tryz.prog kt mdA (fun k => (List.lookup k xsA).isSome) 66 f66 := .mk' (f := 33) (fn := Tryz.f33) rfl (by kernel_rfl) Tryz.func33 (by kernel_rfl)
theorem o78 : FnOk Tryz.prog kt mdA (fun k => (List.lookup k xsA).isSome) 78 f78 := .mk' (f := 37) (fn := Tryz.f37) rfl (by kernel_rfl) Tryz.func37 (by kernel_rfl)
theorem o81 : FnOk Tryz.prog kt mdA (fun k => (List.lookup k xsA).isSome) 81 f81 := .mk' (f := 81) (fn := Tryz.f81) rfl (by kernel_rfl) Tryz.func81 (by kernel_rfl)
theorem o85 : FnOk Tryz.prog kt mdA (fun k => (List.lookup k xsA).isSome) 85 f85 := .mk' (f := 82) (fn := Tryz.f82) rfl (by kernel_rfl) Tryz.func82 (by kernel_rfl)
theorem o87 : FnOk Tryz.prog kt mdA (fun k => (List.lookup k xsA).isSome) 87 f87 := .mk' (f := 39) (fn := Tryz.f39) rfl (by kernel_rfl) Tryz.func39 (by kernel_rfl)
theorem o116 : FnOk Tryz.prog kt mdA (fun k => (List.lookup k xsA).isSome) 116 f116 := .mk' (f := 64) (fn := Tryz.f64) rfl (by kernel_rfl) Tryz.func64 (by kernel_rfl)
theorem o118 : FnOk Tryz.prog kt mdA (fun k => (List.lookup k xsA).isSome) 118 f118 := .mk' (f := 40) (fn := Tryz.f40) rfl (by kernel_rfl) Tryz.func40 (by kernel_rfl)
theorem o121 : FnOk Tryz.prog kt mdA (fun k => (List.lookup k xsA).isSome) 121 f121 := .mk' (f := 69) (fn := Tryz.f69) rfl (by kernel_rfl) Tryz.func69 (by kernel_rfl)
theorem o124 : FnOk Tryz.prog kt mdA (fun k => (List.lookup k xsA).isSome) 124 f124 := .mk' (f := 34) (fn := Tryz.f34) rfl (by kernel_rfl) Tryz.func34 (by kernel_rfl)
theorem o125 : FnOk Tryz.prog kt mdA (fun k => (List.lookup k xsA).isSome) 125 f125 := .mk' (f := 91) (fn := Tryz.f91) rfl (by kernel_rfl) Tryz.func91 (by kernel_rfl)
theorem o126 : FnOk Tryz.prog kt mdA (fun k => (List.lookup k xsA).isSome) 126 f126 := .mk' (f := 72) (fn := Tryz.f72) rfl (by kernel_rfl) Tryz.func72 (by kernel_rfl)
theorem o127 : FnOk Tryz.prog kt mdA (fun k => (List.lookup k xsA).isSome) 127 f127 := .mk' (f := 95) (fn := Tryz.f95) rfl (by kernel_rfl) Tryz.func95 (by kernel_rfl)
theorem o128 : FnOk Tryz.prog kt mdA (fun k => (List.lookup k xsA).isSome) 128 f128 := .mk' (f := 78) (fn := Tryz.f78) rfl (by kernel_rfl) Tryz.func78 (by kernel_rfl)
theorem o129 : FnOk Tryz.prog kt mdA (fun k => (List.lookup k xsA).isSome) 129 f129 := .mk' (f := 30) (fn := Tryz.f30) rfl (by kernel_rfl) Tryz.func30 (by kernel_rfl)
theorem o130 : FnOk Tryz.prog kt mdA (fun k => (List.lookup k xsA).isSome) 130 f130 := .mk' (f := 62) (fn := Tryz.f62) rfl (by kernel_rfl) Tryz.func62 (by kernel_rfl)
theorem o139 : FnOk Tryz.prog kt mdA (fun k => (List.lookup k xsA).isSome) 139 f139 := .mk' (f := 55) (fn := Tryz.f55) rfl (by kernel_rfl) Tryz.func55 (by kernel_rfl)
theorem o144 : FnOk Tryz.prog kt mdA (fun k => (List.lookup k xsA).isSome) 144 f144 := .mk' (f := 29) (fn := Tryz.f29) rfl (by kernel_rfl) Tryz.func29 (by kernel_rfl)
theorem o145 : FnOk Tryz.prog kt mdA (fun k => (List.lookup k xsA).isSome) 145 f145 := .mk' (f := 28) (fn := Tryz.f28) rfl (by kernel_rfl) Tryz.func28 (by kernel_rfl)
theorem o146 : FnOk Tryz.prog kt mdA (fun k => (List.lookup k xsA).isSome) 146 f146 := .mk' (f := 9) (fn := Tryz.f9) rfl (by kernel_rfl) Tryz.func9 (by kernel_rfl)
theorem o148 : FnOk Tryz.prog kt mdA (fun k => (List.lookup k xsA).isSome) 148 f148 := .mk' (f := 12) (fn := Tryz.f12) rfl (by kernel_rfl) Tryz.func12 (by kernel_rfl)
theorem o149 : FnOk Tryz.prog kt mdA (fun k => (List.lookup k xsA).isSome) 149 f149 := .mk' (f := 13) (fn := Tryz.f13) rfl (by kernel_rfl) Tryz.func13 (by kernel_rfl)
theorem o152 : FnOk Tryz.prog kt mdA (fun k => (List.lookup k xsA).isSome) 152 f152 := .mk' (f := 17) (fn := Tryz.f17) rfl (by kernel_rfl) Tryz.func17 (by kernel_rfl)
theorem o153 : FnOk Tryz.prog kt mdA (fun k => (List.lookup k xsA).isSome) 153 f153 := .mk' (f := 18) (fn := Tryz.f18) rfl (by kernel_rfl) Tryz.func18 (by kernel_rfl)
theorem o154 : FnOk Tryz.prog kt mdA (fun k => (List.lookup k xsA).isSome) 154 f154 := .mk' (f := 19) (fn := Tryz.f19) rfl (by kernel_rfl) Tryz.func19 (by kernel_rfl)
theorem o155 : FnOk Tryz.prog kt mdA (fun k => (List.lookup k xsA).isSome) 155 f155 := .mk' (f := 20) (fn := Tryz.f20) rfl (by kernel_rfl) Tryz.func20 (by kernel_rfl)
theorem o156 : FnOk Tryz.prog kt mdA (fun k => (List.lookup k xsA).isSome) 156 f156 := .mk' (f := 21) (fn := Tryz.f21) rfl (by kernel_rfl) Tryz.func21 (by kernel_rfl)
theorem o157 : FnOk Tryz.prog kt mdA (fun k => (List.lookup k xsA).isSome) 157 f157 := .mk' (f := 22) (fn := Tryz.f22) rfl (by kernel_rfl) Tryz.func22 (by kernel_rfl)
theorem o158 : FnOk Tryz.prog kt mdA (fun k => (List.lookup k xsA).isSome) 158 f158 := .mk' (f := 23) (fn := Tryz.f23) rfl (by kernel_rfl) Tryz.func23 (by kernel_rfl)
theorem o159 : FnOk Tryz.prog kt mdA (fun k => (List.lookup k xsA).isSome) 159 f159 := .mk' (f := 24) (fn := Tryz.f24) rfl (by kernel_rfl) Tryz.func24 (by kernel_rfl)
theorem o161 : FnOk Tryz.prog kt mdA (fun k => (List.lookup k xsA).isSome) 161 f161 := .mk' (f := 26) (fn := Tryz.f26) rfl (by kernel_rfl) Tryz.func26 (by kernel_rfl)
theorem o162 : FnOk Tryz.prog kt mdA (fun k => (List.lookup k xsA).isSome) 162 f162 := .mk' (f := 27) (fn := Tryz.f27) rfl (by kernel_rfl) Tryz.func27 (by kernel_rfl)
theorem o191 : FnOk Tryz.prog kt mdA (fun k => (List.lookup k xsA).isSome) 191 f191 := .mk' (f := 73) (fn := Tryz.f73) rfl (by kernel_rfl) Tryz.func73 (by kernel_rfl)
theorem o192 : FnOk Tryz.prog kt mdA (fun k => (List.lookup k xsA).isSome) 192 f192 := .mk' (f := 74) (fn := Tryz.f74) rfl (by kernel_rfl) Tryz.func74 (by kernel_rfl)
theorem o194 : FnOk Tryz.prog kt mdA (fun k => (List.lookup k xsA).isSome) 194 f194 := .mk' (f := 119) (fn := Tryz.f119) rfl (by kernel_rfl) Tryz.func119 (by kernel_rfl)
theorem o195 : FnOk Tryz.prog kt mdA (fun k => (List.lookup k xsA).isSome) 195 f195 := .mk' (f := 120) (fn := Tryz.f120) rfl (by kernel_rfl) Tryz.func120 (by kernel_rfl)
theorem o221 : FnOk Tryz.prog kt mdA (fun k => (List.lookup k xsA).isSome) 221 f221 := .mk' (f := 104) (fn := Tryz.f104) rfl (by kernel_rfl) Tryz.func104 (by kernel_rfl)
theorem o222 : FnOk Tryz.prog kt mdA (fun k => (List.lookup k xsA).isSome) 222 f222 := .mk' (f := 105) (fn := Tryz.f105) rfl (by kernel_rfl) Tryz.func105 (by kernel_rfl)
theorem o224 : FnOk Tryz.prog kt mdA (fun k => (List.lookup k xsA).isSome) 224 f224 := .mk' (f := 84) (fn := Tryz.f84) rfl (by kernel_rfl) Tryz.func84 (by kernel_rfl)
theorem o227 : FnOk Tryz.prog kt mdA (fun k => (List.lookup k xsA).isSome) 227 f227 := .mk' (f := 108) (fn := Tryz.f108) rfl (by kernel_rfl) Tryz.func108 (by kernel_rfl)
theorem o228 : FnOk Tryz.prog kt mdA (fun k => (List.lookup k xsA).isSome) 228 f228 := .mk' (f := 77) (fn := Tryz.f77) rfl (by kernel_rfl) Tryz.func77 (by kernel_rfl)
theorem o229 : FnOk Tryz.prog kt mdA (fun k => (List.lookup k xsA).isSome) 229 f229 := .mk' (f := 102) (fn := Tryz.f102) rfl (by kernel_rfl) Tryz.func102 (by kernel_rfl)
theorem o230 : FnOk Tryz.prog kt mdA (fun k => (List.lookup k xsA).isSome) 230 f230 := .mk' (f := 71) (fn := Tryz.f71) rfl (by kernel_rfl) Tryz.func71 (by kernel_rfl)
theorem o231 : FnOk Tryz.prog kt mdA (fun k => (List.lookup k xsA).isSome) 231 f231 := .mk' (f := 68) (fn := Tryz.f68) rfl (by kernel_rfl) Tryz.func68 (by kernel_rfl)
theorem o249 : FnOk Tryz.prog kt mdA (fun k => (List.lookup k xsA).isSome) 249 f249 := .mk' (f := 96) (fn := Tryz.f96) rfl (by kernel_rfl) Tryz.func96 (by kernel_rfl)
theorem o254 : FnOk Tryz.prog kt mdA (fun k => (List.lookup k xsA).isSome) 254 f254 := .mk' (f := 63) (fn := Tryz.f63) rfl (by kernel_rfl) Tryz.func63 (by kernel_rfl)
theorem o255 : FnOk Tryz.prog kt mdA (fun k => (List.lookup k xsA).isSome) 255 f255 := .mk' (f := 65) (fn := Tryz.f65) rfl (by kernel_rfl) Tryz.func65 (by kernel_rfl)
theorem o257 : FnOk Tryz.prog kt mdA (fun k => (List.lookup k xsA).isSome) 257 f257 := .mk' (f := 67) (fn := Tryz.f67) rfl (by kernel_rfl) Tryz.func67 (by kernel_rfl)
theorem o258 : FnOk Tryz.prog kt mdA (fun k => (List.lookup k xsA).isSome) 258 f258 := .mk' (f := 70) (fn := Tryz.f70) rfl (by kernel_rfl) Tryz.func70 (by kernel_rfl)
theorem o259 : FnOk Tryz.prog kt mdA (fun k => (List.lookup k xsA).isSome) 259 f259 := .mk' (f := 54) (fn := Tryz.f54) rfl (by kernel_rfl) Tryz.func54 (by kernel_rfl)
theorem o261 : FnOk Tryz.prog kt mdA (fun k => (List.lookup k xsA).isSome) 261 f261 := .mk' (f := 35) (fn := Tryz.f35) rfl (by kernel_rfl) Tryz.func35 (by kernel_rfl)
theorem o262 : FnOk Tryz.prog kt mdA (fun k => (List.lookup k xsA).isSome) 262 f262 := .mk' (f := 36) (fn := Tryz.f36) rfl (by kernel_rfl) Tryz.func36 (by kernel_rfl)
theorem o263 : FnOk Tryz.prog kt mdA (fun k => (List.lookup k xsA).isSome) 263 f263 := .mk' (f := 38) (fn := Tryz.f38) rfl (by kernel_rfl) Tryz.func38 (by kernel_rfl)
theorem o264 : FnOk Tryz.prog kt mdA (fun k => (List.lookup k xsA).isSome) 264 f264 := .mk' (f := 41) (fn := Tryz.f41) rfl (by kernel_rfl) Tryz.func41 (by kernel_rfl)
theorem o269 : FnOk Tryz.prog kt mdA (fun k => (List.lookup k xsA).isSome) 269 f269 := .mk' (f := 50) (fn := Tryz.f50) rfl (by kernel_rfl) Tryz.func50 (by kernel_rfl)
theorem o270 : FnOk Tryz.prog kt mdA (fun k => (List.lookup k xsA).isSome) 270 f270 := .mk' (f := 51) (fn := Tryz.f51) rfl (by kernel_rfl) Tryz.func51 (by kernel_rfl)
theorem o271 : FnOk Tryz.prog kt mdA (fun k => (List.lookup k xsA).isSome) 271 f271 := .mk' (f := 52) (fn := Tryz.f52) rfl (by kernel_rfl) Tryz.func52 (by kernel_rfl)
theorem o272 : FnOk Tryz.prog kt mdA (fun k => (List.lookup k xsA).isSome) 272 f272 := .mk' (f := 53) (fn := Tryz.f53) rfl (by kernel_rfl) Tryz.func53 (by kernel_rfl)
theorem o273 : FnOk Tryz.prog kt mdA (fun k => (List.lookup k xsA).isSome) 273 f273 := .mk' (f := 56) (fn := Tryz.f56) rfl (by kernel_rfl) Tryz.func56 (by kernel_rfl)
theorem o275 : FnOk Tryz.prog kt mdA (fun k => (List.lookup k xsA).isSome) 275 f275 := .mk' (f := 58) (fn := Tryz.f58) rfl (by kernel_rfl) Tryz.func58 (by kernel_rfl)
theorem o276 : FnOk Tryz.prog kt mdA (fun k => (List.lookup k xsA).isSome) 276 f276 := .mk' (f := 59) (fn := Tryz.f59) rfl (by kernel_rfl) Tryz.func59 (by kernel_rfl)
theorem o277 : FnOk Tryz.prog kt mdA (fun k => (List.lookup k xsA).isSome) 277 f277 := .mk' (f := 60) (fn := Tryz.f60) rfl (by kernel_rfl) Tryz.func60 (by kernel_rfl)
theorem o278 : FnOk Tryz.prog kt mdA (fun k => (List.lookup k xsA).isSome) 278 f278 := .mk' (f := 61) (fn := Tryz.f61) rfl (by kernel_rfl) Tryz.func61 (by kernel_rfl)
theorem o304 : FnOk Tryz.prog kt mdA (fun k => (List.lookup k xsA).isSome) 304 f304 := .mk' (f := 116) (fn := Tryz.f116) rfl (by kernel_rfl) Tryz.func116 (by kernel_rfl)
theorem o306 : FnOk Tryz.prog kt mdA (fun k => (List.lookup k xsA).isSome) 306 f306 := .mk' (f := 150) (fn := Tryz.f150) rfl (by kernel_rfl) Tryz.func150 (by kernel_rfl)
theorem o312 : FnOk Tryz.prog kt mdA (fun k => (List.lookup k xsA).isSome) 312 f312 := .mk' (f := 118) (fn := Tryz.f118) rfl (by kernel_rfl) Tryz.func118 (by kernel_rfl)
theorem o319 : FnOk Tryz.prog kt mdA (fun k => (List.lookup k xsA).isSome) 319 f319 := .mk' (f := 135) (fn := Tryz.f135) rfl (by kernel_rfl) Tryz.func135 (by kernel_rfl)
theorem o320 : FnOk Tryz.prog kt mdA (fun k => (List.lookup k xsA).isSome) 320 f320 := .mk' (f := 136) (fn := Tryz.f136) rfl (by kernel_rfl) Tryz.func136 (by kernel_rfl)
theorem o321 : FnOk Tryz.prog kt mdA (fun k => (List.lookup k xsA).isSome) 321 f321 := .mk' (f := 137) (fn := Tryz.f137) rfl (by kernel_rfl) Tryz.func137 (by kernel_rfl)
theorem o322 : FnOk Tryz.prog kt mdA (fun k => (List.lookup k xsA).isSome) 322 f322 := .mk' (f := 138) (fn := Tryz.f138) rfl (by kernel_rfl) Tryz.func138 (by kernel_rfl)
theorem o325 : FnOk Tryz.prog kt mdA (fun k => (List.lookup k xsA).isSome) 325 f325 := .mk' (f := 114) (fn := Tryz.f114) rfl (by kernel_rfl) Tryz.func114 (by kernel_rfl)
theorem o326 : FnOk Tryz.prog kt mdA (fun k => (List.lookup k xsA).isSome) 326 f326 := .mk' (f := 115) (fn := Tryz.f115) rfl (by kernel_rfl) Tryz.func115 (by kernel_rfl)
theorem o327 : FnOk Tryz.prog kt mdA (fun k => (List.lookup k xsA).isSome) 327 f327 := .mk' (f := 106) (fn := Tryz.f106) rfl (by kernel_rfl) Tryz.func106 (by kernel_rfl)
theorem o328 : FnOk Tryz.prog kt mdA (fun k => (List.lookup k xsA).isSome) 328 f328 := .mk' (f := 107) (fn := Tryz.f107) rfl (by kernel_rfl) Tryz.func107 (by kernel_rfl)
theorem o350 : FnOk Tryz.prog kt mdA (fun k => (List.lookup k xsA).isSome) 350 f350 := .mk' (f := 80) (fn := Tryz.f80) rfl (by kernel_rfl) Tryz.func80 (by kernel_rfl)
theorem o354 : FnOk Tryz.prog kt mdA (fun k => (List.lookup k xsA).isSome) 354 f354 := .mk' (f := 79) (fn := Tryz.f79) rfl (by kernel_rfl) Tryz.func79 (by kernel_rfl)
theorem o355 : FnOk Tryz.prog kt mdA (fun k => (List.lookup k xsA).isSome) 355 f355 := .mk' (f := 103) (fn := Tryz.f103) rfl (by kernel_rfl) Tryz.func103 (by kernel_rfl)
theorem o356 : FnOk Tryz.prog kt mdA (fun k => (List.lookup k xsA).isSome) 356 f356 := .mk' (f := 109) (fn := Tryz.f109) rfl (by kernel_rfl) Tryz.func109 (by kernel_rfl)
theorem o357 : FnOk Tryz.prog kt mdA (fun k => (List.lookup k xsA).isSome) 357 f357 := .mk' (f := 110) (fn := Tryz.f110) rfl (by kernel_rfl) Tryz.func110 (by kernel_rfl)
theorem o358 : FnOk Tryz.prog kt mdA (fun k => (List.lookup k xsA).isSome) 358 f358 := .mk' (f := 111) (fn := Tryz.f111) rfl (by kernel_rfl) Tryz.func111 (by kernel_rfl)
theorem o359 : FnOk Tryz.prog kt mdA (fun k => (List.lookup k xsA).isSome) 359 f359 := .mk' (f := 112) (fn := Tryz.f112) rfl (by kernel_rfl) Tryz.func112 (by kernel_rfl)
theorem o360 : FnOk Tryz.prog kt mdA (fun k => (List.lookup k xsA).isSome) 360 f360 := .mk' (f := 92) (fn := Tryz.f92) rfl (by kernel_rfl) Tryz.func92 (by kernel_rfl)
theorem o361 : FnOk Tryz.prog kt mdA (fun k => (List.lookup k xsA).isSome) 361 f361 := .mk' (f := 113) (fn := Tryz.f113) rfl (by kernel_rfl) Tryz.func113 (by kernel_rfl)
theorem o363 : FnOk Tryz.prog kt mdA (fun k => (List.lookup k xsA).isSome) 363 f363 := .mk' (f := 93) (fn := Tryz.f93) rfl (by kernel_rfl) Tryz.func93 (by kernel_rfl)
theorem o364 : FnOk Tryz.prog kt mdA (fun k => (List.lookup k xsA).isSome) 364 f364 := .mk' (f := 94) (fn := Tryz.f94) rfl (by kernel_rfl) Tryz.func94 (by kernel_rfl)
theorem o365 : FnOk Tryz.prog kt mdA (fun k => (List.lookup k xsA).isSome) 365 f365 := .mk' (f := 97) (fn := Tryz.f97) rfl (by kernel_rfl) Tryz.func97 (by kernel_rfl)
theorem o367 : FnOk Tryz.prog kt mdA (fun k => (List.lookup k xsA).isSome) 367 f367 := .mk' (f := 100) (fn := Tryz.f100) rfl (by kernel_rfl) Tryz.func100 (by kernel_rfl)
theorem o368 : FnOk Tryz.prog kt mdA (fun k => (List.lookup k xsA).isSome) 368 f368 := .mk' (f := 101) (fn := Tryz.f101) rfl (by kernel_rfl) Tryz.func101 (by kernel_rfl)
theorem o398 : FnOk Tryz.prog kt mdA (fun k => (List.lookup k xsA).isSome) 398 f398 := .mk' (f := 171) (fn := Tryz.f171) rfl (by kernel_rfl) Tryz.func171 (by kernel_rfl)
theorem o408 : FnOk Tryz.prog kt mdA (fun k => (List.lookup k xsA).isSome) 408 f408 := .mk' (f := 162) (fn := Tryz.f162) rfl (by kernel_rfl) Tryz.func162 (by kernel_rfl)
theorem o412 : FnOk Tryz.prog kt mdA (fun k => (List.lookup k xsA).isSome) 412 f412 := .mk' (f := 145) (fn := Tryz.f145) rfl (by kernel_rfl) Tryz.func145 (by kernel_rfl)
theorem o413 : FnOk Tryz.prog kt mdA (fun k => (List.lookup k xsA).isSome) 413 f413 := .mk' (f := 146) (fn := Tryz.f146) rfl (by kernel_rfl) Tryz.func146 (by kernel_rfl)
theorem o414 : FnOk Tryz.prog kt mdA (fun k => (List.lookup k xsA).isSome) 414 f414 := .mk' (f := 147) (fn := Tryz.f147) rfl (by kernel_rfl) Tryz.func147 (by kernel_rfl)
theorem o415 : FnOk Tryz.prog kt mdA (fun k => (List.lookup k xsA).isSome) 415 f415 := .mk' (f := 148) (fn := Tryz.f148) rfl (by kernel_rfl) Tryz.func148 (by kernel_rfl)
theorem o423 : FnOk Tryz.prog kt mdA (fun k => (List.lookup k xsA).isSome) 423 f423 := .mk' (f := 140) (fn := Tryz.f140) rfl (by kernel_rfl) Tryz.func140 (by kernel_rfl)
theorem o424 : FnOk Tryz.prog kt mdA (fun k => (List.lookup k xsA).isSome) 424 f424 := .mk' (f := 141) (fn := Tryz.f141) rfl (by kernel_rfl) Tryz.func141 (by kernel_rfl)
theorem o425 : FnOk Tryz.prog kt mdA (fun k => (List.lookup k xsA).isSome) 425 f425 := .mk' (f := 142) (fn := Tryz.f142) rfl (by kernel_rfl) Tryz.func142 (by kernel_rfl)
theorem o426 : FnOk Tryz.prog kt mdA (fun k => (List.lookup k xsA).isSome) 426 f426 := .mk' (f := 143) (fn := Tryz.f143) rfl (by kernel_rfl) Tryz.func143 (by kernel_rfl)
theorem o427 : FnOk Tryz.prog kt mdA (fun k => (List.lookup k xsA).isSome) 427 f427 := .mk' (f := 144) (fn := Tryz.f144) rfl (by kernel_rfl) Tryz.func144 (by kernel_rfl)
theorem o465 : FnOk Tryz.prog kt mdA (fun k => (List.lookup k xsA).isSome) 465 f465 := .mk' (f := 166) (fn := Tryz.f166) rfl (by kernel_rfl) Tryz.func166 (by kernel_rfl)
theorem fo : AllFn Tryz.prog kt mdA (fun k => (List.lookup k xsA).isSome) fsA := .cons o37 (.cons o61 (.cons o62 (.cons o64 (.cons o66 (.cons o78 (.cons o81 (.cons o85 (.cons o87 (.cons o116 (.cons o118 (.cons o121 (.cons o124 (.cons o125 (.cons o126 (.cons o127 (.cons o128 (.cons o129 (.cons o130 (.cons o139 (.cons o144 (.cons o145 (.cons o146 (.cons o148 (.cons o149 (.cons o152 (.cons o153 (.cons o154 (.cons o155 (.cons o156 (.cons o157 (.cons o158 (.cons o159 (.cons o161 (.cons o162 (.cons o191 (.cons o192 (.cons o194 (.cons o195 (.cons o221 (.cons o222 (.cons o224 (.cons o227 (.cons o228 (.cons o229 (.cons o230 (.cons o231 (.cons o249 (.cons o254 (.cons o255 (.cons o257 (.cons o258 (.cons o259 (.cons o261 (.cons o262 (.cons o263 (.cons o264 (.cons o269 (.cons o270 (.cons o271 (.cons o272 (.cons o273 (.cons o275 (.cons o276 (.cons o277 (.cons o278 (.cons o304 (.cons o306 (.cons o312 (.cons o319 (.cons o320 (.cons o321 (.cons o322 (.cons o325 (.cons o326 (.cons o327 (.cons o328 (.cons o350 (.cons o354 (.cons o355 (.cons o356 (.cons o357 (.cons o358 (.cons o359 (.cons o360 (.cons o361 (.cons o363 (.cons o364 (.cons o365 (.cons o367 (.cons o368 (.cons o398 (.cons o408 (.cons o412 (.cons o413 (.cons o414 (.cons o415 (.cons o423 (.cons o424 (.cons o425 (.cons o426 (.cons o427 (.cons o465 (.nil)))))))))))))))))))))))))))))))))))))))))))))))))))))))))))))))))))))))))))))))))))))))))))))))))))))))
theorem x193 : ExOk Tryz.prog AA kt 193 itoaG := .mk' (f := 76) rfl (by kernel_rfl) (itoa_ok (f := 76) ⟨fun n h0 h1 w h => Tryz.strconv_Itoa n h0 h1 w h⟩ rfl rfl (by kernel_rfl)) (fun _ _ _ _ h _ => itoaG_low h) (fun _ _ _ _ _ _ h => itoaG_frm h)
theorem atoiC : AtoiC Tryz.prog 83 where
      ok s hs v h w := (Tryz.strconv_Atoi_ok s hs v h w).mono fun e w' ⟨h1, h2⟩ => ⟨h1, below_bytes h2⟩
      syn s hs h tp p w hv := (Tryz.strconv_Atoi_syntax_var s hs h tp p w hv).mono fun e w' ⟨N, h1, _, _, h2⟩ => ⟨_, _, h1, h2⟩
      rng s hs h tp p w hv := (Tryz.strconv_Atoi_range_var s hs h tp p w hv).mono fun e w' ⟨N, h1, _, _, h2⟩ => ⟨_, _, h1, h2⟩
theorem x196 : ExOk Tryz.prog AA kt 196 atoiG := .mk' (f := 83) rfl (by kernel_rfl) (atoi_ok (f := 83) atoiC rfl rfl (by kernel_rfl) rfl rfl (by kernel_rfl)) (fun _ _ _ _ h _ => atoiG_low h)
theorem x256 : ExOk Tryz.prog AA kt 256 (cloneG 3 48) := .mk' (f := 66) rfl (by kernel_rfl) (clone_ext (f := 66) (fn := Tryz.f66) Tryz.func66 (zero := [.i 0, .s ⟨#[]⟩, .lst 0 true []]) (by kernel_rfl) (by decide) (by kernel_rfl) (by kernel_rfl)) (fun _ _ _ _ h hn => cloneG_low h hn)
theorem x274 : ExOk Tryz.prog AA kt 274 sortIG := .mk' (f := 57) rfl (by kernel_rfl) (sortI_ok (f := 57) ⟨fun p c w => Tryz.slices_Sort_int_none p c w, fun b o c ss w h1 h2 h3 => Tryz.slices_Sort_int b o c ss w h1 h2 h3⟩) (fun _ _ _ _ h hn => sortIG_low h hn)
theorem x324 : ExOk Tryz.prog AA kt 324 joinG := .mk' (f := 139) rfl (by kernel_rfl) (join_ok (f := 139) ⟨fun a c sep w => Tryz.strings_Join_none a c sep w, fun bk o c xs sep w h1 h2 h3 h4 h5 => Tryz.strings_Join bk o c xs sep w h1 h2 h3 h4 h5⟩) (fun _ _ _ _ h _ => joinG_low h)
theorem xo : AllEx Tryz.prog AA kt xsA := .cons x193 (.cons x196 (.cons x256 (.cons x274 (.cons x324 (.nil)))))
theorem ok : Ok Tryz.prog AA kt := prog_ok fo xo glA_pure
theorem own : ownKnob Tryz.prog.godebug = none := by kernel_rfl
theorem lo : laidOutB Tryz.prog = true := by kernel_rfl
theorem pl : plainSet Tryz.prog [3, 4, 9, 22, 24] = true := by kernel_rfl
abbrev laid0 : List (String × DataW Unit) := Rows.mechHidesRow.laid
theorem laid0_plain : (laid0.all fun x => x.2.handleName?.isNone) = true := by kernel_rfl
theorem glob_ok {W : World} (h : laidMetH Tryz.prog laid0 W) : Glob AA (G0 kt W) W
  | 0, v, hg, m, hm => by
        have hm : some 0 = some m := hm
        cases hm; cases hg
        exact glob_flat (laid_flat (g := 0) (L := [3, 4, 9, 136, 137]) (vs := kindsW) (t := 137) h laid0_plain (.tail _ (.tail _ (.tail _ (.tail _ (.tail _ (.head _)))))) (by kernel_rfl) (by kernel_rfl) (by kernel_rfl) (by kernel_rfl) (by kernel_rfl)) (n := "sluiceway/term.kinds") (by kernel_rfl) (by kernel_rfl)
  | 1, v, hg, m, hm => by
        have hm : some 2 = some m := hm
        cases hm; cases hg
        exact glob_err (laid_iface (g := 2) (t := 94) h laid0_plain (.tail _ (.tail _ (.tail _ (.head _)))) (by kernel_rfl) (by kernel_rfl) (by kernel_rfl)) (n := "strconv.ErrRange") (by kernel_rfl)
  | 2, v, hg, m, hm => by
        have hm : some 1 = some m := hm
        cases hm; cases hg
        exact glob_err (laid_iface (g := 1) (t := 94) h laid0_plain (.tail _ (.tail _ (.tail _ (.tail _ (.head _))))) (by kernel_rfl) (by kernel_rfl) (by kernel_rfl)) (n := "strconv.ErrSyntax") (by kernel_rfl)
  | 3, v, hg, m, hm => by
        have hm : some 3 = some m := hm
        cases hm; cases hg
        exact glob_flat (laid_flat (g := 3) (L := [134, 182]) (vs := pow10V) (t := 182) h laid0_plain (.tail _ (.tail _ (.head _))) (by kernel_rfl) (by kernel_rfl) (by kernel_rfl) (by kernel_rfl) (by kernel_rfl)) (n := "internal/strconv.uint64pow10") (by kernel_rfl) (by kernel_rfl)
  | _ + 4, v, hg, m, hm => by cases hg
theorem hT : ∃ fs, TermTy Tryz.prog 24 3 9 22 fs := ⟨_, Tryz.underlying24, rfl, Tryz.underlying3, Tryz.underlying9, Tryz.underlying22, by kernel_rfl, by kernel_rfl⟩
theorem isBulkU {H : Type} : IsBulk (H := H) Rows.uptoBulk Rows.uptoBulkAll where
  str _ := by simp only [Rows.uptoBulk]
  int _ _ := by simp only [Rows.uptoBulk]
  bool _ := by simp only [Rows.uptoBulk]
  nil := by simp only [Rows.uptoBulk]
  agg _ := by simp only [Rows.uptoBulk]
  slice _ _ := by simp only [Rows.uptoBulk]
  nilA := by simp only [Rows.uptoBulkAll]
  consA _ _ := by simp only [Rows.uptoBulkAll]
theorem door_met (os : Os) (args : Array Value) : laidMetH Tryz.prog laid0 ((World.doorLaid Tryz.prog 80 os).forCall (fun _ _ => 0) ⟨#[], args, []⟩).memory :=
      laidMetH_of_parts3 (fuel := 8) (laidMet_of_run' 8 (by kernel_rfl) (by kernel_rfl)) (by kernel_rfl) (by kernel_rfl)
theorem rb : reachBytes = 140737488351232 := rfl
end Go.Proofs.YtpmgdaoofalpnaaGreatDoor
