/- The program of the abstract machine. -/
import Derived.Test.YtpmgdaoofalpnaaGreatDoorE4
import Derived.Test.YtpmgdaoofalpnaaGreatDoorE3
import Derived.KernelRfl
import Derived.Test.YtpmgdaoofalpnaaGreatDoorC1
set_option linter.unusedVariables false
set_option linter.unusedSimpArgs false
set_option linter.unusedSectionVars false
namespace Abs
open Go
def fsA : List (Nat × AFunc) := [(37, f37), (61, f61), (62, f62), (64, f64), (66, f66), (78, f78), (81, f81), (85, f85), (87, f87), (116, f116), (118, f118), (121, f121), (124, f124), (125, f125), (126, f126), (127, f127), (128, f128), (129, f129), (130, f130), (139, f139), (144, f144), (145, f145), (146, f146), (148, f148), (149, f149), (152, f152), (153, f153), (154, f154), (155, f155), (156, f156), (157, f157), (158, f158), (159, f159), (161, f161), (162, f162), (191, f191), (192, f192), (194, f194), (195, f195), (221, f221), (222, f222), (224, f224), (227, f227), (228, f228), (229, f229), (230, f230), (231, f231), (249, f249), (254, f254), (255, f255), (257, f257), (258, f258), (259, f259), (261, f261), (262, f262), (263, f263), (264, f264), (269, f269), (270, f270), (271, f271), (272, f272), (273, f273), (275, f275), (276, f276), (277, f277), (278, f278), (304, f304), (306, f306), (312, f312), (319, f319), (320, f320), (321, f321), (322, f322), (325, f325), (326, f326), (327, f327), (328, f328), (350, f350), (354, f354), (355, f355), (356, f356), (357, f357), (358, f358), (359, f359), (360, f360), (361, f361), (363, f363), (364, f364), (365, f365), (367, f367), (368, f368), (398, f398), (408, f408), (412, f412), (413, f413), (414, f414), (415, f415), (423, f423), (424, f424), (425, f425), (426, f426), (427, f427), (465, f465)]
def xsA : List (Nat × (List AV → AS → Option (AV × AS))) := [(193, itoaG), (196, atoiG), (256, (cloneG 3 48)), (274, sortIG), (324, joinG)]
def mdA : Nat → Mode := fun k => if k = 193 then .keepF [] else if k < 49 || [191, 224, 230, 231, 257, 258, 275, 276, 304, 320, 325, 326, 327, 328, 355, 356, 357, 358, 359, 361, 367, 408, 412, 413, 414, 415, 423, 424, 425, 426, 427, 465].contains k then .keep else .calm
def kindsV : List AV := [.s ⟨#[]⟩, .i (0), .b false, .s ⟨#[100]⟩, .i (0), .b true, .s ⟨#[97]⟩, .i (0), .b true, .s ⟨#[112]⟩, .i (-1), .b false, .s ⟨#[101]⟩, .i (2), .b false, .s ⟨#[109]⟩, .i (2), .b false, .s ⟨#[104]⟩, .i (1), .b false, .s ⟨#[107]⟩, .i (1), .b true, .s ⟨#[117]⟩, .i (1), .b false, .s ⟨#[115]⟩, .i (2), .b false, .s ⟨#[120]⟩, .i (2), .b false]
def glA : Nat → Option AV := fun n => match n with
  | 0 => some (.iptr kindsV)
  | 1 => some (.iptr [.opq])
  | 2 => some (.iptr [.opq])
  | 3 => some (.iptr (pow10V.map .sc))
  | _ => none
theorem glA_pure : ∀ g v, glA g = some v → v.pure = true := by
  intro g v h
  unfold glA at h
  split at h <;> cases h <;> rfl
def AA : AProg := progOf fsA xsA mdA glA
noncomputable abbrev call (k : Nat) (args : List AV) (S : AS) : Option (AV × AS) := docall AA (run AA) k args S
theorem a37 : AA.ext 37 = none ∧ AA.funcs 37 = some f37 ∧ AA.mode 37 = .keep := ⟨by kernel_rfl, by kernel_rfl, by kernel_rfl⟩
theorem a61 : AA.ext 61 = none ∧ AA.funcs 61 = some f61 ∧ AA.mode 61 = .calm := ⟨by kernel_rfl, by kernel_rfl, by kernel_rfl⟩
theorem a62 : AA.ext 62 = none ∧ AA.funcs 62 = some f62 ∧ AA.mode 62 = .calm := ⟨by kernel_rfl, by kernel_rfl, by kernel_rfl⟩
theorem a64 : AA.ext 64 = none ∧ AA.funcs 64 = some f64 ∧ AA.mode 64 = .calm := ⟨by kernel_rfl, by kernel_rfl, by kernel_rfl⟩
theorem a66 : AA.ext 66 = none ∧ AA.funcs 66 = some f66 ∧ AA.mode 66 = .calm := ⟨by kernel_rfl, by kernel_rfl, by kernel_rfl⟩
theorem a78 : AA.ext 78 = none ∧ AA.funcs 78 = some f78 ∧ AA.mode 78 = .calm := ⟨by kernel_rfl, by kernel_rfl, by kernel_rfl⟩
theorem a81 : AA.ext 81 = none ∧ AA.funcs 81 = some f81 ∧ AA.mode 81 = .calm := ⟨by kernel_rfl, by kernel_rfl, by kernel_rfl⟩
theorem a85 : AA.ext 85 = none ∧ AA.funcs 85 = some f85 ∧ AA.mode 85 = .calm := ⟨by kernel_rfl, by kernel_rfl, by kernel_rfl⟩
theorem a87 : AA.ext 87 = none ∧ AA.funcs 87 = some f87 ∧ AA.mode 87 = .calm := ⟨by kernel_rfl, by kernel_rfl, by kernel_rfl⟩
theorem a116 : AA.ext 116 = none ∧ AA.funcs 116 = some f116 ∧ AA.mode 116 = .calm := ⟨by kernel_rfl, by kernel_rfl, by kernel_rfl⟩
theorem a118 : AA.ext 118 = none ∧ AA.funcs 118 = some f118 ∧ AA.mode 118 = .calm := ⟨by kernel_rfl, by kernel_rfl, by kernel_rfl⟩
theorem a121 : AA.ext 121 = none ∧ AA.funcs 121 = some f121 ∧ AA.mode 121 = .calm := ⟨by kernel_rfl, by kernel_rfl, by kernel_rfl⟩
theorem a124 : AA.ext 124 = none ∧ AA.funcs 124 = some f124 ∧ AA.mode 124 = .calm := ⟨by kernel_rfl, by kernel_rfl, by kernel_rfl⟩
theorem a125 : AA.ext 125 = none ∧ AA.funcs 125 = some f125 ∧ AA.mode 125 = .calm := ⟨by kernel_rfl, by kernel_rfl, by kernel_rfl⟩
theorem a126 : AA.ext 126 = none ∧ AA.funcs 126 = some f126 ∧ AA.mode 126 = .calm := ⟨by kernel_rfl, by kernel_rfl, by kernel_rfl⟩
theorem a127 : AA.ext 127 = none ∧ AA.funcs 127 = some f127 ∧ AA.mode 127 = .calm := ⟨by kernel_rfl, by kernel_rfl, by kernel_rfl⟩
theorem a128 : AA.ext 128 = none ∧ AA.funcs 128 = some f128 ∧ AA.mode 128 = .calm := ⟨by kernel_rfl, by kernel_rfl, by kernel_rfl⟩
theorem a129 : AA.ext 129 = none ∧ AA.funcs 129 = some f129 ∧ AA.mode 129 = .calm := ⟨by kernel_rfl, by kernel_rfl, by kernel_rfl⟩
theorem a130 : AA.ext 130 = none ∧ AA.funcs 130 = some f130 ∧ AA.mode 130 = .calm := ⟨by kernel_rfl, by kernel_rfl, by kernel_rfl⟩
theorem a139 : AA.ext 139 = none ∧ AA.funcs 139 = some f139 ∧ AA.mode 139 = .calm := ⟨by kernel_rfl, by kernel_rfl, by kernel_rfl⟩
theorem a144 : AA.ext 144 = none ∧ AA.funcs 144 = some f144 ∧ AA.mode 144 = .calm := ⟨by kernel_rfl, by kernel_rfl, by kernel_rfl⟩
theorem a145 : AA.ext 145 = none ∧ AA.funcs 145 = some f145 ∧ AA.mode 145 = .calm := ⟨by kernel_rfl, by kernel_rfl, by kernel_rfl⟩
theorem a146 : AA.ext 146 = none ∧ AA.funcs 146 = some f146 ∧ AA.mode 146 = .calm := ⟨by kernel_rfl, by kernel_rfl, by kernel_rfl⟩
theorem a148 : AA.ext 148 = none ∧ AA.funcs 148 = some f148 ∧ AA.mode 148 = .calm := ⟨by kernel_rfl, by kernel_rfl, by kernel_rfl⟩
theorem a149 : AA.ext 149 = none ∧ AA.funcs 149 = some f149 ∧ AA.mode 149 = .calm := ⟨by kernel_rfl, by kernel_rfl, by kernel_rfl⟩
theorem a152 : AA.ext 152 = none ∧ AA.funcs 152 = some f152 ∧ AA.mode 152 = .calm := ⟨by kernel_rfl, by kernel_rfl, by kernel_rfl⟩
theorem a153 : AA.ext 153 = none ∧ AA.funcs 153 = some f153 ∧ AA.mode 153 = .calm := ⟨by kernel_rfl, by kernel_rfl, by kernel_rfl⟩
theorem a154 : AA.ext 154 = none ∧ AA.funcs 154 = some f154 ∧ AA.mode 154 = .calm := ⟨by kernel_rfl, by kernel_rfl, by kernel_rfl⟩
theorem a155 : AA.ext 155 = none ∧ AA.funcs 155 = some f155 ∧ AA.mode 155 = .calm := ⟨by kernel_rfl, by kernel_rfl, by kernel_rfl⟩
theorem a156 : AA.ext 156 = none ∧ AA.funcs 156 = some f156 ∧ AA.mode 156 = .calm := ⟨by kernel_rfl, by kernel_rfl, by kernel_rfl⟩
theorem a157 : AA.ext 157 = none ∧ AA.funcs 157 = some f157 ∧ AA.mode 157 = .calm := ⟨by kernel_rfl, by kernel_rfl, by kernel_rfl⟩
theorem a158 : AA.ext 158 = none ∧ AA.funcs 158 = some f158 ∧ AA.mode 158 = .calm := ⟨by kernel_rfl, by kernel_rfl, by kernel_rfl⟩
theorem a159 : AA.ext 159 = none ∧ AA.funcs 159 = some f159 ∧ AA.mode 159 = .calm := ⟨by kernel_rfl, by kernel_rfl, by kernel_rfl⟩
theorem a161 : AA.ext 161 = none ∧ AA.funcs 161 = some f161 ∧ AA.mode 161 = .calm := ⟨by kernel_rfl, by kernel_rfl, by kernel_rfl⟩
theorem a162 : AA.ext 162 = none ∧ AA.funcs 162 = some f162 ∧ AA.mode 162 = .calm := ⟨by kernel_rfl, by kernel_rfl, by kernel_rfl⟩
theorem a191 : AA.ext 191 = none ∧ AA.funcs 191 = some f191 ∧ AA.mode 191 = .keep := ⟨by kernel_rfl, by kernel_rfl, by kernel_rfl⟩
theorem a192 : AA.ext 192 = none ∧ AA.funcs 192 = some f192 ∧ AA.mode 192 = .calm := ⟨by kernel_rfl, by kernel_rfl, by kernel_rfl⟩
theorem a194 : AA.ext 194 = none ∧ AA.funcs 194 = some f194 ∧ AA.mode 194 = .calm := ⟨by kernel_rfl, by kernel_rfl, by kernel_rfl⟩
theorem a195 : AA.ext 195 = none ∧ AA.funcs 195 = some f195 ∧ AA.mode 195 = .calm := ⟨by kernel_rfl, by kernel_rfl, by kernel_rfl⟩
theorem a221 : AA.ext 221 = none ∧ AA.funcs 221 = some f221 ∧ AA.mode 221 = .calm := ⟨by kernel_rfl, by kernel_rfl, by kernel_rfl⟩
theorem a222 : AA.ext 222 = none ∧ AA.funcs 222 = some f222 ∧ AA.mode 222 = .calm := ⟨by kernel_rfl, by kernel_rfl, by kernel_rfl⟩
theorem a224 : AA.ext 224 = none ∧ AA.funcs 224 = some f224 ∧ AA.mode 224 = .keep := ⟨by kernel_rfl, by kernel_rfl, by kernel_rfl⟩
theorem a227 : AA.ext 227 = none ∧ AA.funcs 227 = some f227 ∧ AA.mode 227 = .calm := ⟨by kernel_rfl, by kernel_rfl, by kernel_rfl⟩
theorem a228 : AA.ext 228 = none ∧ AA.funcs 228 = some f228 ∧ AA.mode 228 = .calm := ⟨by kernel_rfl, by kernel_rfl, by kernel_rfl⟩
theorem a229 : AA.ext 229 = none ∧ AA.funcs 229 = some f229 ∧ AA.mode 229 = .calm := ⟨by kernel_rfl, by kernel_rfl, by kernel_rfl⟩
theorem a230 : AA.ext 230 = none ∧ AA.funcs 230 = some f230 ∧ AA.mode 230 = .keep := ⟨by kernel_rfl, by kernel_rfl, by kernel_rfl⟩
theorem a231 : AA.ext 231 = none ∧ AA.funcs 231 = some f231 ∧ AA.mode 231 = .keep := ⟨by kernel_rfl, by kernel_rfl, by kernel_rfl⟩
theorem a249 : AA.ext 249 = none ∧ AA.funcs 249 = some f249 ∧ AA.mode 249 = .calm := ⟨by kernel_rfl, by kernel_rfl, by kernel_rfl⟩
theorem a254 : AA.ext 254 = none ∧ AA.funcs 254 = some f254 ∧ AA.mode 254 = .calm := ⟨by kernel_rfl, by kernel_rfl, by kernel_rfl⟩
theorem a255 : AA.ext 255 = none ∧ AA.funcs 255 = some f255 ∧ AA.mode 255 = .calm := ⟨by kernel_rfl, by kernel_rfl, by kernel_rfl⟩
theorem a257 : AA.ext 257 = none ∧ AA.funcs 257 = some f257 ∧ AA.mode 257 = .keep := ⟨by kernel_rfl, by kernel_rfl, by kernel_rfl⟩
theorem a258 : AA.ext 258 = none ∧ AA.funcs 258 = some f258 ∧ AA.mode 258 = .keep := ⟨by kernel_rfl, by kernel_rfl, by kernel_rfl⟩
theorem a259 : AA.ext 259 = none ∧ AA.funcs 259 = some f259 ∧ AA.mode 259 = .calm := ⟨by kernel_rfl, by kernel_rfl, by kernel_rfl⟩
theorem a261 : AA.ext 261 = none ∧ AA.funcs 261 = some f261 ∧ AA.mode 261 = .calm := ⟨by kernel_rfl, by kernel_rfl, by kernel_rfl⟩
theorem a262 : AA.ext 262 = none ∧ AA.funcs 262 = some f262 ∧ AA.mode 262 = .calm := ⟨by kernel_rfl, by kernel_rfl, by kernel_rfl⟩
theorem a263 : AA.ext 263 = none ∧ AA.funcs 263 = some f263 ∧ AA.mode 263 = .calm := ⟨by kernel_rfl, by kernel_rfl, by kernel_rfl⟩
theorem a264 : AA.ext 264 = none ∧ AA.funcs 264 = some f264 ∧ AA.mode 264 = .calm := ⟨by kernel_rfl, by kernel_rfl, by kernel_rfl⟩
theorem a269 : AA.ext 269 = none ∧ AA.funcs 269 = some f269 ∧ AA.mode 269 = .calm := ⟨by kernel_rfl, by kernel_rfl, by kernel_rfl⟩
theorem a270 : AA.ext 270 = none ∧ AA.funcs 270 = some f270 ∧ AA.mode 270 = .calm := ⟨by kernel_rfl, by kernel_rfl, by kernel_rfl⟩
theorem a271 : AA.ext 271 = none ∧ AA.funcs 271 = some f271 ∧ AA.mode 271 = .calm := ⟨by kernel_rfl, by kernel_rfl, by kernel_rfl⟩
theorem a272 : AA.ext 272 = none ∧ AA.funcs 272 = some f272 ∧ AA.mode 272 = .calm := ⟨by kernel_rfl, by kernel_rfl, by kernel_rfl⟩
theorem a273 : AA.ext 273 = none ∧ AA.funcs 273 = some f273 ∧ AA.mode 273 = .calm := ⟨by kernel_rfl, by kernel_rfl, by kernel_rfl⟩
theorem a275 : AA.ext 275 = none ∧ AA.funcs 275 = some f275 ∧ AA.mode 275 = .keep := ⟨by kernel_rfl, by kernel_rfl, by kernel_rfl⟩
theorem a276 : AA.ext 276 = none ∧ AA.funcs 276 = some f276 ∧ AA.mode 276 = .keep := ⟨by kernel_rfl, by kernel_rfl, by kernel_rfl⟩
theorem a277 : AA.ext 277 = none ∧ AA.funcs 277 = some f277 ∧ AA.mode 277 = .calm := ⟨by kernel_rfl, by kernel_rfl, by kernel_rfl⟩
theorem a278 : AA.ext 278 = none ∧ AA.funcs 278 = some f278 ∧ AA.mode 278 = .calm := ⟨by kernel_rfl, by kernel_rfl, by kernel_rfl⟩
theorem a304 : AA.ext 304 = none ∧ AA.funcs 304 = some f304 ∧ AA.mode 304 = .keep := ⟨by kernel_rfl, by kernel_rfl, by kernel_rfl⟩
theorem a306 : AA.ext 306 = none ∧ AA.funcs 306 = some f306 ∧ AA.mode 306 = .calm := ⟨by kernel_rfl, by kernel_rfl, by kernel_rfl⟩
theorem a312 : AA.ext 312 = none ∧ AA.funcs 312 = some f312 ∧ AA.mode 312 = .calm := ⟨by kernel_rfl, by kernel_rfl, by kernel_rfl⟩
theorem a319 : AA.ext 319 = none ∧ AA.funcs 319 = some f319 ∧ AA.mode 319 = .calm := ⟨by kernel_rfl, by kernel_rfl, by kernel_rfl⟩
theorem a320 : AA.ext 320 = none ∧ AA.funcs 320 = some f320 ∧ AA.mode 320 = .keep := ⟨by kernel_rfl, by kernel_rfl, by kernel_rfl⟩
theorem a321 : AA.ext 321 = none ∧ AA.funcs 321 = some f321 ∧ AA.mode 321 = .calm := ⟨by kernel_rfl, by kernel_rfl, by kernel_rfl⟩
theorem a322 : AA.ext 322 = none ∧ AA.funcs 322 = some f322 ∧ AA.mode 322 = .calm := ⟨by kernel_rfl, by kernel_rfl, by kernel_rfl⟩
theorem a325 : AA.ext 325 = none ∧ AA.funcs 325 = some f325 ∧ AA.mode 325 = .keep := ⟨by kernel_rfl, by kernel_rfl, by kernel_rfl⟩
theorem a326 : AA.ext 326 = none ∧ AA.funcs 326 = some f326 ∧ AA.mode 326 = .keep := ⟨by kernel_rfl, by kernel_rfl, by kernel_rfl⟩
theorem a327 : AA.ext 327 = none ∧ AA.funcs 327 = some f327 ∧ AA.mode 327 = .keep := ⟨by kernel_rfl, by kernel_rfl, by kernel_rfl⟩
theorem a328 : AA.ext 328 = none ∧ AA.funcs 328 = some f328 ∧ AA.mode 328 = .keep := ⟨by kernel_rfl, by kernel_rfl, by kernel_rfl⟩
theorem a350 : AA.ext 350 = none ∧ AA.funcs 350 = some f350 ∧ AA.mode 350 = .calm := ⟨by kernel_rfl, by kernel_rfl, by kernel_rfl⟩
theorem a354 : AA.ext 354 = none ∧ AA.funcs 354 = some f354 ∧ AA.mode 354 = .calm := ⟨by kernel_rfl, by kernel_rfl, by kernel_rfl⟩
theorem a355 : AA.ext 355 = none ∧ AA.funcs 355 = some f355 ∧ AA.mode 355 = .keep := ⟨by kernel_rfl, by kernel_rfl, by kernel_rfl⟩
theorem a356 : AA.ext 356 = none ∧ AA.funcs 356 = some f356 ∧ AA.mode 356 = .keep := ⟨by kernel_rfl, by kernel_rfl, by kernel_rfl⟩
theorem a357 : AA.ext 357 = none ∧ AA.funcs 357 = some f357 ∧ AA.mode 357 = .keep := ⟨by kernel_rfl, by kernel_rfl, by kernel_rfl⟩
theorem a358 : AA.ext 358 = none ∧ AA.funcs 358 = some f358 ∧ AA.mode 358 = .keep := ⟨by kernel_rfl, by kernel_rfl, by kernel_rfl⟩
theorem a359 : AA.ext 359 = none ∧ AA.funcs 359 = some f359 ∧ AA.mode 359 = .keep := ⟨by kernel_rfl, by kernel_rfl, by kernel_rfl⟩
theorem a360 : AA.ext 360 = none ∧ AA.funcs 360 = some f360 ∧ AA.mode 360 = .calm := ⟨by kernel_rfl, by kernel_rfl, by kernel_rfl⟩
theorem a361 : AA.ext 361 = none ∧ AA.funcs 361 = some f361 ∧ AA.mode 361 = .keep := ⟨by kernel_rfl, by kernel_rfl, by kernel_rfl⟩
theorem a363 : AA.ext 363 = none ∧ AA.funcs 363 = some f363 ∧ AA.mode 363 = .calm := ⟨by kernel_rfl, by kernel_rfl, by kernel_rfl⟩
theorem a364 : AA.ext 364 = none ∧ AA.funcs 364 = some f364 ∧ AA.mode 364 = .calm := ⟨by kernel_rfl, by kernel_rfl, by kernel_rfl⟩
theorem a365 : AA.ext 365 = none ∧ AA.funcs 365 = some f365 ∧ AA.mode 365 = .calm := ⟨by kernel_rfl, by kernel_rfl, by kernel_rfl⟩
theorem a367 : AA.ext 367 = none ∧ AA.funcs 367 = some f367 ∧ AA.mode 367 = .keep := ⟨by kernel_rfl, by kernel_rfl, by kernel_rfl⟩
theorem a368 : AA.ext 368 = none ∧ AA.funcs 368 = some f368 ∧ AA.mode 368 = .calm := ⟨by kernel_rfl, by kernel_rfl, by kernel_rfl⟩
theorem a398 : AA.ext 398 = none ∧ AA.funcs 398 = some f398 ∧ AA.mode 398 = .calm := ⟨by kernel_rfl, by kernel_rfl, by kernel_rfl⟩
theorem a408 : AA.ext 408 = none ∧ AA.funcs 408 = some f408 ∧ AA.mode 408 = .keep := ⟨by kernel_rfl, by kernel_rfl, by kernel_rfl⟩
theorem a412 : AA.ext 412 = none ∧ AA.funcs 412 = some f412 ∧ AA.mode 412 = .keep := ⟨by kernel_rfl, by kernel_rfl, by kernel_rfl⟩
theorem a413 : AA.ext 413 = none ∧ AA.funcs 413 = some f413 ∧ AA.mode 413 = .keep := ⟨by kernel_rfl, by kernel_rfl, by kernel_rfl⟩
theorem a414 : AA.ext 414 = none ∧ AA.funcs 414 = some f414 ∧ AA.mode 414 = .keep := ⟨by kernel_rfl, by kernel_rfl, by kernel_rfl⟩
theorem a415 : AA.ext 415 = none ∧ AA.funcs 415 = some f415 ∧ AA.mode 415 = .keep := ⟨by kernel_rfl, by kernel_rfl, by kernel_rfl⟩
theorem a423 : AA.ext 423 = none ∧ AA.funcs 423 = some f423 ∧ AA.mode 423 = .keep := ⟨by kernel_rfl, by kernel_rfl, by kernel_rfl⟩
theorem a424 : AA.ext 424 = none ∧ AA.funcs 424 = some f424 ∧ AA.mode 424 = .keep := ⟨by kernel_rfl, by kernel_rfl, by kernel_rfl⟩
theorem a425 : AA.ext 425 = none ∧ AA.funcs 425 = some f425 ∧ AA.mode 425 = .keep := ⟨by kernel_rfl, by kernel_rfl, by kernel_rfl⟩
theorem a426 : AA.ext 426 = none ∧ AA.funcs 426 = some f426 ∧ AA.mode 426 = .keep := ⟨by kernel_rfl, by kernel_rfl, by kernel_rfl⟩
theorem a427 : AA.ext 427 = none ∧ AA.funcs 427 = some f427 ∧ AA.mode 427 = .keep := ⟨by kernel_rfl, by kernel_rfl, by kernel_rfl⟩
theorem a465 : AA.ext 465 = none ∧ AA.funcs 465 = some f465 ∧ AA.mode 465 = .keep := ⟨by kernel_rfl, by kernel_rfl, by kernel_rfl⟩
theorem a193 : AA.ext 193 = some itoaG := by kernel_rfl
theorem a196 : AA.ext 196 = some atoiG := by kernel_rfl
theorem a256 : AA.ext 256 = some (cloneG 3 48) := by kernel_rfl
theorem a274 : AA.ext 274 = some sortIG := by kernel_rfl
theorem a324 : AA.ext 324 = some joinG := by kernel_rfl
end Abs
