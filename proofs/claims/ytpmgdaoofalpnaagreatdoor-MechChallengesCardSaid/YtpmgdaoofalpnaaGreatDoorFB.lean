/- Mech laws hold, whatever the input: what a mechanism makes is taken, and nothing else. -/
import Derived.Test.YtpmgdaoofalpnaaGreatDoorLw
import Derived.Test.YtpmgdaoofalpnaaGreatDoorSh
import Derived.Test.YtpmgdaoofalpnaaGreatDoorPr
import Derived.Test.YtpmgdaoofalpnaaGreatDoorE4
import Derived.Test.YtpmgdaoofalpnaaGreatDoorCards
import Derived.Test.YtpmgdaoofalpnaaGreatDoorTie
import Derived.Deep.DeepWitnessRowRef
import Derived.LaidMore
import Derived.OpenShut
import Derived.ProofKit
import Derived.KernelRfl
set_option linter.unusedVariables false
set_option linter.unusedSimpArgs false
set_option linter.unusedSectionVars false
namespace Go.Proofs.YtpmgdaoofalpnaaGreatDoor
open Go Abs Go.RowKit

def kindsW : List Value := [.string ⟨#[]⟩, .int .i64 (0), .bool false, .string ⟨#[100]⟩, .int .i64 (0), .bool true, .string ⟨#[97]⟩, .int .i64 (0), .bool true, .string ⟨#[112]⟩, .int .i64 (-1), .bool false, .string ⟨#[101]⟩, .int .i64 (2), .bool false, .string ⟨#[109]⟩, .int .i64 (2), .bool false, .string ⟨#[104]⟩, .int .i64 (1), .bool false, .string ⟨#[107]⟩, .int .i64 (1), .bool true, .string ⟨#[117]⟩, .int .i64 (1), .bool false, .string ⟨#[115]⟩, .int .i64 (2), .bool false, .string ⟨#[120]⟩, .int .i64 (2), .bool false]
def kt : Nat → Option Nat := fun k => List.lookup k [(32, 3), (33, 4), (34, 5), (35, 6), (36, 7), (61, 14), (62, 32), (63, 42), (64, 75), (65, 85), (66, 33), (67, 43), (78, 37), (79, 47), (81, 81), (82, 89), (85, 82), (86, 90), (87, 39), (88, 49), (118, 40), (121, 69), (124, 34), (125, 91), (126, 72), (127, 95), (128, 78), (130, 62), (139, 55), (142, 11), (146, 9), (147, 10), (148, 12), (149, 13), (150, 15), (151, 16), (152, 17), (153, 18), (154, 19), (155, 20), (156, 21), (157, 22), (158, 23), (159, 24), (160, 25), (161, 26), (162, 27), (191, 73), (192, 74), (194, 119), (195, 120), (221, 104), (224, 84), (227, 108), (228, 77), (229, 102), (249, 96), (259, 54), (260, 31), (261, 35), (262, 36), (263, 38), (264, 41), (265, 44), (266, 45), (267, 46), (268, 48), (269, 50), (270, 51), (271, 52), (272, 53), (273, 56), (275, 58), (276, 59), (277, 60), (278, 61), (293, 88), (304, 116), (306, 150), (312, 118), (319, 135), (320, 136), (321, 137), (336, 87), (350, 80), (354, 79), (360, 92), (362, 86), (363, 93), (364, 94), (365, 97), (367, 100), (368, 101), (385, 123), (398, 171), (408, 162), (193, 76), (196, 83), (256, 66), (274, 57), (324, 139), (10000, 0), (10001, 2), (10002, 1), (10003, 3)]
theorem o32 : FnOk Tryz.prog kt mdA (fun k => (List.lookup k xsA).isSome) 32 f32 := .mk' (f := 3) (fn := Tryz.f3) rfl (by kernel_rfl) Tryz.func3 (by kernel_rfl)
theorem o33 : FnOk Tryz.prog kt mdA (fun k => (List.lookup k xsA).isSome) 33 f33 := .mk' (f := 4) (fn := Tryz.f4) rfl (by kernel_rfl) Tryz.func4 (by kernel_rfl)
theorem o34 : FnOk Tryz.prog kt mdA (fun k => (List.lookup k xsA).isSome) 34 f34 := .mk' (f := 5) (fn := Tryz.f5) rfl (by kernel_rfl) Tryz.func5 (by kernel_rfl)
theorem o35 : FnOk Tryz.prog kt mdA (fun k => (List.lookup k xsA).isSome) 35 f35 := .mk' (f := 6) (fn := Tryz.f6) rfl (by kernel_rfl) Tryz.func6 (by kernel_rfl)
theorem o36 : FnOk Tryz.prog kt mdA (fun k => (List.lookup k xsA).isSome) 36 f36 := .mk' (f := 7) (fn := Tryz.f7) rfl (by kernel_rfl) Tryz.func7 (by kernel_rfl)
theorem o61 : FnOk Tryz.prog kt mdA (fun k => (List.lookup k xsA).isSome) 61 f61 := .mk' (f := 14) (fn := Tryz.f14) rfl (by kernel_rfl) Tryz.func14 (by kernel_rfl)
theorem o62 : FnOk Tryz.prog kt mdA (fun k => (List.lookup k xsA).isSome) 62 f62 := .mk' (f := 32) (fn := Tryz.f32) rfl (by kernel_rfl) Tryz.func32 (by kernel_rfl)
theorem o63 : FnOk Tryz.prog kt mdA (fun k => (List.lookup k xsA).isSome) 63 f63 := .mk' (f := 42) (fn := Tryz.f42) rfl (by kernel_rfl) Tryz.func42 (by kernel_rfl)
theorem o64 : FnOk Tryz.prog kt mdA (fun k => (List.lookup k xsA).isSome) 64 f64 := .mk' (f := 75) (fn := Tryz.f75) rfl (by kernel_rfl) Tryz.func75 (by kernel_rfl)
theorem o65 : FnOk Tryz.prog kt mdA (fun k => (List.lookup k xsA).isSome) 65 f65 := .mk' (f := 85) (fn := Tryz.f85) rfl (by kernel_rfl) Tryz.func85 (by kernel_rfl)
theorem o66 : FnOk Tryz.prog kt mdA (fun k => (List.lookup k xsA).isSome) 66 f66 := .mk' (f := 33) (fn := Tryz.f33) rfl (by kernel_rfl) Tryz.func33 (by kernel_rfl)
theorem o67 : FnOk Tryz.prog kt mdA (fun k => (List.lookup k xsA).isSome) 67 f67 := .mk' (f := 43) (fn := Tryz.f43) rfl (by kernel_rfl) Tryz.func43 (by kernel_rfl)
theorem o78 : FnOk Tryz.prog kt mdA (fun k => (List.lookup k xsA).isSome) 78 f78 := .mk' (f := 37) (fn := Tryz.f37) rfl (by kernel_rfl) Tryz.func37 (by kernel_rfl)
theorem o79 : FnOk Tryz.prog kt mdA (fun k => (List.lookup k xsA).isSome) 79 f79 := .mk' (f := 47) (fn := Tryz.f47) rfl (by kernel_rfl) Tryz.func47 (by kernel_rfl)
theorem o81 : FnOk Tryz.prog kt mdA (fun k => (List.lookup k xsA).isSome) 81 f81 := .mk' (f := 81) (fn := Tryz.f81) rfl (by kernel_rfl) Tryz.func81 (by kernel_rfl)
theorem o82 : FnOk Tryz.prog kt mdA (fun k => (List.lookup k xsA).isSome) 82 f82 := .mk' (f := 89) (fn := Tryz.f89) rfl (by kernel_rfl) Tryz.func89 (by kernel_rfl)
theorem o85 : FnOk Tryz.prog kt mdA (fun k => (List.lookup k xsA).isSome) 85 f85 := .mk' (f := 82) (fn := Tryz.f82) rfl (by kernel_rfl) Tryz.func82 (by kernel_rfl)
theorem o86 : FnOk Tryz.prog kt mdA (fun k => (List.lookup k xsA).isSome) 86 f86 := .mk' (f := 90) (fn := Tryz.f90) rfl (by kernel_rfl) Tryz.func90 (by kernel_rfl)
theorem o87 : FnOk Tryz.prog kt mdA (fun k => (List.lookup k xsA).isSome) 87 f87 := .mk' (f := 39) (fn := Tryz.f39) rfl (by kernel_rfl) Tryz.func39 (by kernel_rfl)
theorem o88 : FnOk Tryz.prog kt mdA (fun k => (List.lookup k xsA).isSome) 88 f88 := .mk' (f := 49) (fn := Tryz.f49) rfl (by kernel_rfl) Tryz.func49 (by kernel_rfl)
theorem o118 : FnOk Tryz.prog kt mdA (fun k => (List.lookup k xsA).isSome) 118 f118 := .mk' (f := 40) (fn := Tryz.f40) rfl (by kernel_rfl) Tryz.func40 (by kernel_rfl)
theorem o121 : FnOk Tryz.prog kt mdA (fun k => (List.lookup k xsA).isSome) 121 f121 := .mk' (f := 69) (fn := Tryz.f69) rfl (by kernel_rfl) Tryz.func69 (by kernel_rfl)
theorem o124 : FnOk Tryz.prog kt mdA (fun k => (List.lookup k xsA).isSome) 124 f124 := .mk' (f := 34) (fn := Tryz.f34) rfl (by kernel_rfl) Tryz.func34 (by kernel_rfl)
theorem o125 : FnOk Tryz.prog kt mdA (fun k => (List.lookup k xsA).isSome) 125 f125 := .mk' (f := 91) (fn := Tryz.f91) rfl (by kernel_rfl) Tryz.func91 (by kernel_rfl)
theorem o126 : FnOk Tryz.prog kt mdA (fun k => (List.lookup k xsA).isSome) 126 f126 := .mk' (f := 72) (fn := Tryz.f72) rfl (by kernel_rfl) Tryz.func72 (by kernel_rfl)
theorem o127 : FnOk Tryz.prog kt mdA (fun k => (List.lookup k xsA).isSome) 127 f127 := .mk' (f := 95) (fn := Tryz.f95) rfl (by kernel_rfl) Tryz.func95 (by kernel_rfl)
theorem o128 : FnOk Tryz.prog kt mdA (fun k => (List.lookup k xsA).isSome) 128 f128 := .mk' (f := 78) (fn := Tryz.f78) rfl (by kernel_rfl) Tryz.func78 (by kernel_rfl)
theorem o130 : FnOk Tryz.prog kt mdA (fun k => (List.lookup k xsA).isSome) 130 f130 := .mk' (f := 62) (fn := Tryz.f62) rfl (by kernel_rfl) Tryz.func62 (by kernel_rfl)
theorem o139 : FnOk Tryz.prog kt mdA (fun k => (List.lookup k xsA).isSome) 139 f139 := .mk' (f := 55) (fn := Tryz.f55) rfl (by kernel_rfl) Tryz.func55 (by kernel_rfl)
theorem o142 : FnOk Tryz.prog kt mdA (fun k => (List.lookup k xsA).isSome) 142 f142 := .mk' (f := 11) (fn := Tryz.f11) rfl (by kernel_rfl) Tryz.func11 (by kernel_rfl)
theorem o146 : FnOk Tryz.prog kt mdA (fun k => (List.lookup k xsA).isSome) 146 f146 := .mk' (f := 9) (fn := Tryz.f9) rfl (by kernel_rfl) Tryz.func9 (by kernel_rfl)
theorem o147 : FnOk Tryz.prog kt mdA (fun k => (List.lookup k xsA).isSome) 147 f147 := .mk' (f := 10) (fn := Tryz.f10) rfl (by kernel_rfl) Tryz.func10 (by kernel_rfl)
theorem o148 : FnOk Tryz.prog kt mdA (fun k => (List.lookup k xsA).isSome) 148 f148 := .mk' (f := 12) (fn := Tryz.f12) rfl (by kernel_rfl) Tryz.func12 (by kernel_rfl)
theorem o149 : FnOk Tryz.prog kt mdA (fun k => (List.lookup k xsA).isSome) 149 f149 := .mk' (f := 13) (fn := Tryz.f13) rfl (by kernel_rfl) Tryz.func13 (by kernel_rfl)
theorem o150 : FnOk Tryz.prog kt mdA (fun k => (List.lookup k xsA).isSome) 150 f150 := .mk' (f := 15) (fn := Tryz.f15) rfl (by kernel_rfl) Tryz.func15 (by kernel_rfl)
theorem o151 : FnOk Tryz.prog kt mdA (fun k => (List.lookup k xsA).isSome) 151 f151 := .mk' (f := 16) (fn := Tryz.f16) rfl (by kernel_rfl) Tryz.func16 (by kernel_rfl)
theorem o152 : FnOk Tryz.prog kt mdA (fun k => (List.lookup k xsA).isSome) 152 f152 := .mk' (f := 17) (fn := Tryz.f17) rfl (by kernel_rfl) Tryz.func17 (by kernel_rfl)
theorem o153 : FnOk Tryz.prog kt mdA (fun k => (List.lookup k xsA).isSome) 153 f153 := .mk' (f := 18) (fn := Tryz.f18) rfl (by kernel_rfl) Tryz.func18 (by kernel_rfl)
theorem o154 : FnOk Tryz.prog kt mdA (fun k => (List.lookup k xsA).isSome) 154 f154 := .mk' (f := 19) (fn := Tryz.f19) rfl (by kernel_rfl) Tryz.func19 (by kernel_rfl)
theorem o155 : FnOk Tryz.prog kt mdA (fun k => (List.lookup k xsA).isSome) 155 f155 := .mk' (f := 20) (fn := Tryz.f20) rfl (by kernel_rfl) Tryz.func20 (by kernel_rfl)
theorem o156 : FnOk Tryz.prog kt mdA (fun k => (List.lookup k xsA).isSome) 156 f156 := .mk' (f := 21) (fn := Tryz.f21) rfl (by kernel_rfl) Tryz.func21 (by kernel_rfl)
theorem o157 : FnOk Tryz.prog kt mdA (fun k => (List.lookup k xsA).isSome) 157 f157 := .mk' (f := 22) (fn := Tryz.f22) rfl (by kernel_rfl) Tryz.func22 (by kernel_rfl)
theorem o158 : FnOk Tryz.prog kt mdA (fun k => (List.lookup k xsA).isSome) 158 f158 := .mk' (f := 23) (fn := Tryz.f23) rfl (by kernel_rfl) Tryz.func23 (by kernel_rfl)
theorem o159 : FnOk Tryz.prog kt mdA (fun k => (List.lookup k xsA).isSome) 159 f159 := .mk' (f := 24) (fn := Tryz.f24) rfl (by kernel_rfl) Tryz.func24 (by kernel_rfl)
theorem o160 : FnOk Tryz.prog kt mdA (fun k => (List.lookup k xsA).isSome) 160 f160 := .mk' (f := 25) (fn := Tryz.f25) rfl (by kernel_rfl) Tryz.func25 (by kernel_rfl)
theorem o161 : FnOk Tryz.prog kt mdA (fun k => (List.lookup k xsA).isSome) 161 f161 := .mk' (f := 26) (fn := Tryz.f26) rfl (by kernel_rfl) Tryz.func26 (by kernel_rfl)
theorem o162 : FnOk Tryz.prog kt mdA (fun k => (List.lookup k xsA).isSome) 162 f162 := .mk' (f := 27) (fn := Tryz.f27) rfl (by kernel_rfl) Tryz.func27 (by kernel_rfl)
theorem o191 : FnOk Tryz.prog kt mdA (fun k => (List.lookup k xsA).isSome) 191 f191 := .mk' (f := 73) (fn := Tryz.f73) rfl (by kernel_rfl) Tryz.func73 (by kernel_rfl)
theorem o192 : FnOk Tryz.prog kt mdA (fun k => (List.lookup k xsA).isSome) 192 f192 := .mk' (f := 74) (fn := Tryz.f74) rfl (by kernel_rfl) Tryz.func74 (by kernel_rfl)
theorem o194 : FnOk Tryz.prog kt mdA (fun k => (List.lookup k xsA).isSome) 194 f194 := .mk' (f := 119) (fn := Tryz.f119) rfl (by kernel_rfl) Tryz.func119 (by kernel_rfl)
theorem o195 : FnOk Tryz.prog kt mdA (fun k => (List.lookup k xsA).isSome) 195 f195 := .mk' (f := 120) (fn := Tryz.f120) rfl (by kernel_rfl) Tryz.func120 (by kernel_rfl)
theorem o221 : FnOk Tryz.prog kt mdA (fun k => (List.lookup k xsA).isSome) 221 f221 := .mk' (f := 104) (fn := Tryz.f104) rfl (by kernel_rfl) Tryz.func104 (by kernel_rfl)
theorem o224 : FnOk Tryz.prog kt mdA (fun k => (List.lookup k xsA).isSome) 224 f224 := .mk' (f := 84) (fn := Tryz.f84) rfl (by kernel_rfl) Tryz.func84 (by kernel_rfl)
theorem o227 : FnOk Tryz.prog kt mdA (fun k => (List.lookup k xsA).isSome) 227 f227 := .mk' (f := 108) (fn := Tryz.f108) rfl (by kernel_rfl) Tryz.func108 (by kernel_rfl)
theorem o228 : FnOk Tryz.prog kt mdA (fun k => (List.lookup k xsA).isSome) 228 f228 := .mk' (f := 77) (fn := Tryz.f77) rfl (by kernel_rfl) Tryz.func77 (by kernel_rfl)
theorem o229 : FnOk Tryz.prog kt mdA (fun k => (List.lookup k xsA).isSome) 229 f229 := .mk' (f := 102) (fn := Tryz.f102) rfl (by kernel_rfl) Tryz.func102 (by kernel_rfl)
theorem o249 : FnOk Tryz.prog kt mdA (fun k => (List.lookup k xsA).isSome) 249 f249 := .mk' (f := 96) (fn := Tryz.f96) rfl (by kernel_rfl) Tryz.func96 (by kernel_rfl)
theorem o259 : FnOk Tryz.prog kt mdA (fun k => (List.lookup k xsA).isSome) 259 f259 := .mk' (f := 54) (fn := Tryz.f54) rfl (by kernel_rfl) Tryz.func54 (by kernel_rfl)
theorem o260 : FnOk Tryz.prog kt mdA (fun k => (List.lookup k xsA).isSome) 260 f260 := .mk' (f := 31) (fn := Tryz.f31) rfl (by kernel_rfl) Tryz.func31 (by kernel_rfl)
theorem o261 : FnOk Tryz.prog kt mdA (fun k => (List.lookup k xsA).isSome) 261 f261 := .mk' (f := 35) (fn := Tryz.f35) rfl (by kernel_rfl) Tryz.func35 (by kernel_rfl)
theorem o262 : FnOk Tryz.prog kt mdA (fun k => (List.lookup k xsA).isSome) 262 f262 := .mk' (f := 36) (fn := Tryz.f36) rfl (by kernel_rfl) Tryz.func36 (by kernel_rfl)
theorem o263 : FnOk Tryz.prog kt mdA (fun k => (List.lookup k xsA).isSome) 263 f263 := .mk' (f := 38) (fn := Tryz.f38) rfl (by kernel_rfl) Tryz.func38 (by kernel_rfl)
theorem o264 : FnOk Tryz.prog kt mdA (fun k => (List.lookup k xsA).isSome) 264 f264 := .mk' (f := 41) (fn := Tryz.f41) rfl (by kernel_rfl) Tryz.func41 (by kernel_rfl)
theorem o265 : FnOk Tryz.prog kt mdA (fun k => (List.lookup k xsA).isSome) 265 f265 := .mk' (f := 44) (fn := Tryz.f44) rfl (by kernel_rfl) Tryz.func44 (by kernel_rfl)
theorem o266 : FnOk Tryz.prog kt mdA (fun k => (List.lookup k xsA).isSome) 266 f266 := .mk' (f := 45) (fn := Tryz.f45) rfl (by kernel_rfl) Tryz.func45 (by kernel_rfl)
theorem o267 : FnOk Tryz.prog kt mdA (fun k => (List.lookup k xsA).isSome) 267 f267 := .mk' (f := 46) (fn := Tryz.f46) rfl (by kernel_rfl) Tryz.func46 (by kernel_rfl)
theorem o268 : FnOk Tryz.prog kt mdA (fun k => (List.lookup k xsA).isSome) 268 f268 := .mk' (f := 48) (fn := Tryz.f48) rfl (by kernel_rfl) Tryz.func48 (by kernel_rfl)
theorem o269 : FnOk Tryz.prog kt mdA (fun k => (List.lookup k xsA).isSome) 269 f269 := .mk' (f := 50) (fn := Tryz.f50) rfl (by kernel_rfl) Tryz.func50 (by kernel_rfl)
theorem o270 : FnOk Tryz.prog kt mdA (fun k => (List.lookup k xsA).isSome) 270 f270 := .mk' (f := 51) (fn := Tryz.f51) rfl (by kernel_rfl) Tryz.func51 (by kernel_rfl)
theorem o271 : FnOk Tryz.prog kt mdA (fun k => (List.lookup k xsA).isSome) 271 f271 := .mk' (f := 52) (fn := Tryz.f52) rfl (by kernel_rfl) Tryz.func52 (by kernel_rfl)
theorem o272 : FnOk Tryz.prog kt mdA (fun k => (List.lookup k xsA).isSome) 272 f272 := .mk' (f := 53) (fn := Tryz.f53) rfl (by kernel_rfl) Tryz.func53 (by kernel_rfl)
theorem o273 : FnOk Tryz.prog kt mdA (fun k => (List.lookup k xsA).isSome) 273 f273 := .mk' (f := 56) (fn := Tryz.f56) rfl (by kernel_rfl) Tryz.func56 (by kernel_rfl)
theorem o275 : FnOk Tryz.prog kt mdA (fun k => (List.lookup k xsA).isSome) 275 f275 := .mk' (f := 58) (fn := Tryz.f58) rfl (by kernel_rfl) Tryz.func58 (by kernel_rfl)
theorem o276 : FnOk Tryz.prog kt mdA (fun k => (List.lookup k xsA).isSome) 276 f276 := .mk' (f := 59) (fn := Tryz.f59) rfl (by kernel_rfl) Tryz.func59 (by kernel_rfl)
theorem o277 : FnOk Tryz.prog kt mdA (fun k => (List.lookup k xsA).isSome) 277 f277 := .mk' (f := 60) (fn := Tryz.f60) rfl (by kernel_rfl) Tryz.func60 (by kernel_rfl)
theorem o278 : FnOk Tryz.prog kt mdA (fun k => (List.lookup k xsA).isSome) 278 f278 := .mk' (f := 61) (fn := Tryz.f61) rfl (by kernel_rfl) Tryz.func61 (by kernel_rfl)
theorem o293 : FnOk Tryz.prog kt mdA (fun k => (List.lookup k xsA).isSome) 293 f293 := .mk' (f := 88) (fn := Tryz.f88) rfl (by kernel_rfl) Tryz.func88 (by kernel_rfl)
theorem o304 : FnOk Tryz.prog kt mdA (fun k => (List.lookup k xsA).isSome) 304 f304 := .mk' (f := 116) (fn := Tryz.f116) rfl (by kernel_rfl) Tryz.func116 (by kernel_rfl)
theorem o306 : FnOk Tryz.prog kt mdA (fun k => (List.lookup k xsA).isSome) 306 f306 := .mk' (f := 150) (fn := Tryz.f150) rfl (by kernel_rfl) Tryz.func150 (by kernel_rfl)
theorem o312 : FnOk Tryz.prog kt mdA (fun k => (List.lookup k xsA).isSome) 312 f312 := .mk' (f := 118) (fn := Tryz.f118) rfl (by kernel_rfl) Tryz.func118 (by kernel_rfl)
theorem o319 : FnOk Tryz.prog kt mdA (fun k => (List.lookup k xsA).isSome) 319 f319 := .mk' (f := 135) (fn := Tryz.f135) rfl (by kernel_rfl) Tryz.func135 (by kernel_rfl)
theorem o320 : FnOk Tryz.prog kt mdA (fun k => (List.lookup k xsA).isSome) 320 f320 := .mk' (f := 136) (fn := Tryz.f136) rfl (by kernel_rfl) Tryz.func136 (by kernel_rfl)
theorem o321 : FnOk Tryz.prog kt mdA (fun k => (List.lookup k xsA).isSome) 321 f321 := .mk' (f := 137) (fn := Tryz.f137) rfl (by kernel_rfl) Tryz.func137 (by kernel_rfl)
theorem o336 : FnOk Tryz.prog kt mdA (fun k => (List.lookup k xsA).isSome) 336 f336 := .mk' (f := 87) (fn := Tryz.f87) rfl (by kernel_rfl) Tryz.func87 (by kernel_rfl)
theorem o350 : FnOk Tryz.prog kt mdA (fun k => (List.lookup k xsA).isSome) 350 f350 := .mk' (f := 80) (fn := Tryz.f80) rfl (by kernel_rfl) Tryz.func80 (by kernel_rfl)
theorem o354 : FnOk Tryz.prog kt mdA (fun k => (List.lookup k xsA).isSome) 354 f354 := .mk' (f := 79) (fn := Tryz.f79) rfl (by kernel_rfl) Tryz.func79 (by kernel_rfl)
theorem o360 : FnOk Tryz.prog kt mdA (fun k => (List.lookup k xsA).isSome) 360 f360 := .mk' (f := 92) (fn := Tryz.f92) rfl (by kernel_rfl) Tryz.func92 (by kernel_rfl)
theorem o362 : FnOk Tryz.prog kt mdA (fun k => (List.lookup k xsA).isSome) 362 f362 := .mk' (f := 86) (fn := Tryz.f86) rfl (by kernel_rfl) Tryz.func86 (by kernel_rfl)
theorem o363 : FnOk Tryz.prog kt mdA (fun k => (List.lookup k xsA).isSome) 363 f363 := .mk' (f := 93) (fn := Tryz.f93) rfl (by kernel_rfl) Tryz.func93 (by kernel_rfl)
theorem o364 : FnOk Tryz.prog kt mdA (fun k => (List.lookup k xsA).isSome) 364 f364 := .mk' (f := 94) (fn := Tryz.f94) rfl (by kernel_rfl) Tryz.func94 (by kernel_rfl)
theorem o365 : FnOk Tryz.prog kt mdA (fun k => (List.lookup k xsA).isSome) 365 f365 := .mk' (f := 97) (fn := Tryz.f97) rfl (by kernel_rfl) Tryz.func97 (by kernel_rfl)
theorem o367 : FnOk Tryz.prog kt mdA (fun k => (List.lookup k xsA).isSome) 367 f367 := .mk' (f := 100) (fn := Tryz.f100) rfl (by kernel_rfl) Tryz.func100 (by kernel_rfl)
theorem o368 : FnOk Tryz.prog kt mdA (fun k => (List.lookup k xsA).isSome) 368 f368 := .mk' (f := 101) (fn := Tryz.f101) rfl (by kernel_rfl) Tryz.func101 (by kernel_rfl)
theorem o385 : FnOk Tryz.prog kt mdA (fun k => (List.lookup k xsA).isSome) 385 f385 := .mk' (f := 123) (fn := Tryz.f123) rfl (by kernel_rfl) Tryz.func123 (by kernel_rfl)
theorem o398 : FnOk Tryz.prog kt mdA (fun k => (List.lookup k xsA).isSome) 398 f398 := .mk' (f := 171) (fn := Tryz.f171) rfl (by kernel_rfl) Tryz.func171 (by kernel_rfl)
theorem o408 : FnOk Tryz.prog kt mdA (fun k => (List.lookup k xsA).isSome) 408 f408 := .mk' (f := 162) (fn := Tryz.f162) rfl (by kernel_rfl) Tryz.func162 (by kernel_rfl)
theorem fo : AllFn Tryz.prog kt mdA (fun k => (List.lookup k xsA).isSome) fsA := .cons o32 (.cons o33 (.cons o34 (.cons o35 (.cons o36 (.cons o61 (.cons o62 (.cons o63 (.cons o64 (.cons o65 (.cons o66 (.cons o67 (.cons o78 (.cons o79 (.cons o81 (.cons o82 (.cons o85 (.cons o86 (.cons o87 (.cons o88 (.cons o118 (.cons o121 (.cons o124 (.cons o125 (.cons o126 (.cons o127 (.cons o128 (.cons o130 (.cons o139 (.cons o142 (.cons o146 (.cons o147 (.cons o148 (.cons o149 (.cons o150 (.cons o151 (.cons o152 (.cons o153 (.cons o154 (.cons o155 (.cons o156 (.cons o157 (.cons o158 (.cons o159 (.cons o160 (.cons o161 (.cons o162 (.cons o191 (.cons o192 (.cons o194 (.cons o195 (.cons o221 (.cons o224 (.cons o227 (.cons o228 (.cons o229 (.cons o249 (.cons o259 (.cons o260 (.cons o261 (.cons o262 (.cons o263 (.cons o264 (.cons o265 (.cons o266 (.cons o267 (.cons o268 (.cons o269 (.cons o270 (.cons o271 (.cons o272 (.cons o273 (.cons o275 (.cons o276 (.cons o277 (.cons o278 (.cons o293 (.cons o304 (.cons o306 (.cons o312 (.cons o319 (.cons o320 (.cons o321 (.cons o336 (.cons o350 (.cons o354 (.cons o360 (.cons o362 (.cons o363 (.cons o364 (.cons o365 (.cons o367 (.cons o368 (.cons o385 (.cons o398 (.cons o408 (.nil))))))))))))))))))))))))))))))))))))))))))))))))))))))))))))))))))))))))))))))))))))))))))))))))
theorem x193 : ExOk Tryz.prog AA kt 193 itoaG := .mk' (f := 76) rfl (by kernel_rfl) (itoa_ok (f := 76) ⟨fun n h0 h1 w h => Tryz.strconv_Itoa n h0 h1 w h⟩ rfl rfl (by kernel_rfl)) (fun _ _ _ _ h _ => itoaG_low h)
theorem atoiC : AtoiC Tryz.prog 83 where
      ok s hs v h w := (Tryz.strconv_Atoi_ok s hs v h w).mono fun e w' ⟨h1, h2⟩ => ⟨h1, below_bytes h2⟩
      syn s hs h tp p w hv := (Tryz.strconv_Atoi_syntax_var s hs h tp p w hv).mono fun e w' ⟨N, h1, _, _, h2⟩ => ⟨_, _, h1, h2⟩
      rng s hs h tp p w hv := (Tryz.strconv_Atoi_range_var s hs h tp p w hv).mono fun e w' ⟨N, h1, _, _, h2⟩ => ⟨_, _, h1, h2⟩
theorem x196 : ExOk Tryz.prog AA kt 196 atoiG := .mk' (f := 83) rfl (by kernel_rfl) (atoi_ok (f := 83) atoiC rfl rfl (by kernel_rfl) rfl rfl (by kernel_rfl)) (fun _ _ _ _ h _ => atoiG_low h)
theorem x256 : ExOk Tryz.prog AA kt 256 (cloneG 3 48) := .mk' (f := 66) rfl (by kernel_rfl) (clone_ext (f := 66) (fn := Tryz.f66) Tryz.func66 (zero := [.i 0, .s ⟨#[]⟩, .lst 0 true []]) (by kernel_rfl) (by decide) (by kernel_rfl) (by kernel_rfl)) (fun _ _ _ _ h hn => cloneG_low h hn)
theorem x274 : ExOk Tryz.prog AA kt 274 sortIG := .mk' (f := 57) rfl (by kernel_rfl) (sortI_ok (f := 57) ⟨fun p c w => Tryz.slices_Sort_int_none p c w, fun b o c ss w h1 h2 h3 => Tryz.slices_Sort_int b o c ss w h1 h2 h3⟩) (fun _ _ _ _ h hn => sortIG_low h hn)
theorem x324 : ExOk Tryz.prog AA kt 324 joinG := .mk' (f := 139) rfl (by kernel_rfl) (join_ok (f := 139) ⟨fun a c sep w => Tryz.strings_Join_none a c sep w, fun bk o c xs sep w h1 h2 h3 h4 h5 => Tryz.strings_Join bk o c xs sep w h1 h2 h3 h4 h5⟩) (fun _ _ _ _ h _ => joinG_low h)
theorem xo : AllEx Tryz.prog AA kt xsA := .cons x193 (.cons x196 (.cons x256 (.cons x274 (.cons x324 (.nil)))))
theorem ok : Ok Tryz.prog AA kt := prog_ok fo xo
theorem own : ownKnob Tryz.prog.godebug = none := by kernel_rfl
theorem lo : laidOutB Tryz.prog = true := by kernel_rfl
theorem pl : plainSet Tryz.prog [3, 4, 9, 22, 24, 26, 43] = true := by kernel_rfl
abbrev laid0 : List (String × DataW Unit) := Rows.mechSidesRow.laid
theorem laid0_plain : (laid0.all fun x => x.2.handleName?.isNone) = true := by kernel_rfl
theorem glob_ok {W : World} (h : laidMetH Tryz.prog laid0 W) : Glob AA (G0 kt W) W
  | 0, v, hg, m, hm => by
        have hm : some 0 = some m := hm
        cases hm; cases hg
        exact glob_flat (laid_flat (g := 0) (L := [3, 4, 9, 136, 137]) (vs := kindsW) (t := 137) h laid0_plain (.tail _ (.tail _ (.tail _ (.tail _ (.tail _ (.head _)))))) (by kernel_rfl) (by kernel_rfl) (by kernel_rfl) (by kernel_rfl) (by kernel_rfl)) (n := "sluiceway/term.kinds") (by kernel_rfl) (by kernel_rfl)
  | 1, v, hg, m, hm => by
        have hm : some 2 = some m := hm
        cases hm; cases hg
        exact glob_err (laid_iface (g := 2) (t := 94) h laid0_plain (.tail _ (.tail _ (.tail _ (.head _)))) (by kernel_rfl) (by kernel_rfl) (by kernel_rfl)) (n := "strconv.ErrRange") (by kernel_rfl)
  | 2, v, hg, m, hm => by
        have hm : some 1 = some m := hm
        cases hm; cases hg
        exact glob_err (laid_iface (g := 1) (t := 94) h laid0_plain (.tail _ (.tail _ (.tail _ (.tail _ (.head _))))) (by kernel_rfl) (by kernel_rfl) (by kernel_rfl)) (n := "strconv.ErrSyntax") (by kernel_rfl)
  | 3, v, hg, m, hm => by
        have hm : some 3 = some m := hm
        cases hm; cases hg
        exact glob_flat (laid_flat (g := 3) (L := [134, 182]) (vs := pow10V) (t := 182) h laid0_plain (.tail _ (.tail _ (.head _))) (by kernel_rfl) (by kernel_rfl) (by kernel_rfl) (by kernel_rfl) (by kernel_rfl)) (n := "internal/strconv.uint64pow10") (by kernel_rfl) (by kernel_rfl)
  | _ + 4, v, hg, m, hm => by cases hg
theorem hT : ∃ fs, TermTy Tryz.prog 24 3 9 22 fs := ⟨_, Tryz.underlying24, rfl, Tryz.underlying3, Tryz.underlying9, Tryz.underlying22, by kernel_rfl, by kernel_rfl⟩
theorem hK : ∃ fs, TokTy Tryz.prog 43 3 fs := ⟨_, Tryz.underlying43, rfl, Tryz.underlying3⟩
theorem hV : ∃ fs, FvTy Tryz.prog 26 24 fs := ⟨_, Tryz.underlying26, rfl⟩
theorem door_met (os : Os) (args : Array Value) : laidMetH Tryz.prog laid0 ((World.doorLaid Tryz.prog 80 os).forCall (fun _ _ => 0) ⟨#[], args, []⟩).memory :=
      laidMetH_of_parts3 (fuel := 8) (laidMet_of_run' 8 (by kernel_rfl) (by kernel_rfl)) (by kernel_rfl) (by kernel_rfl)
theorem rb : reachBytes = 140737488351232 := rfl
end Go.Proofs.YtpmgdaoofalpnaaGreatDoor
