/- The program of the abstract machine. -/
import Derived.Test.YtgpcbcbmhlgekaaDoorE4
import Derived.Test.YtgpcbcbmhlgekaaDoorE3
import Derived.KernelRfl
import Derived.Test.YtgpcbcbmhlgekaaDoorC1
set_option linter.unusedVariables false
set_option linter.unusedSimpArgs false
set_option linter.unusedSectionVars false
namespace Abs
open Go
def fsA : List (Nat × AFunc) := [(25, f25), (26, f26), (59, f59), (62, f62), (64, f64), (66, f66), (68, f68), (72, f72), (74, f74), (76, f76), (78, f78), (81, f81), (83, f83), (85, f85), (87, f87), (92, f92), (96, f96), (107, f107), (109, f109), (110, f110), (112, f112), (114, f114), (115, f115), (116, f116), (117, f117), (118, f118), (121, f121), (122, f122), (126, f126), (128, f128), (129, f129), (130, f130), (191, f191), (192, f192), (194, f194), (195, f195), (210, f210), (214, f214), (215, f215), (216, f216), (217, f217), (218, f218), (221, f221), (222, f222), (223, f223), (224, f224), (227, f227), (228, f228), (229, f229), (230, f230), (231, f231), (254, f254), (257, f257), (304, f304), (306, f306), (315, f315), (319, f319), (320, f320), (321, f321), (322, f322), (325, f325), (326, f326), (327, f327), (328, f328), (355, f355), (360, f360), (398, f398), (408, f408), (412, f412), (413, f413), (414, f414), (415, f415)]
def xsA : List (Nat × (List AV → AS → Option (AV × AS))) := [(193, itoaG), (196, atoiG), (256, (cloneG 3 48)), (324, joinG)]
def mdA : Nat → Mode := fun k => if k < 49 || [191, 214, 215, 216, 217, 218, 224, 230, 231, 257, 304, 320, 325, 326, 327, 328, 355, 408, 412, 413, 414, 415].contains k then .keep else .calm
def kindsV : List AV := [.s ⟨#[]⟩, .i (0), .b false, .s ⟨#[100]⟩, .i (0), .b true, .s ⟨#[97]⟩, .i (0), .b true, .s ⟨#[112]⟩, .i (-1), .b false, .s ⟨#[101]⟩, .i (2), .b false, .s ⟨#[109]⟩, .i (2), .b false, .s ⟨#[104]⟩, .i (1), .b false, .s ⟨#[107]⟩, .i (1), .b true, .s ⟨#[117]⟩, .i (1), .b false, .s ⟨#[115]⟩, .i (2), .b false, .s ⟨#[120]⟩, .i (2), .b false]
def glA : Nat → Option AV := fun n => match n with
  | 0 => some (.iptr kindsV)
  | 1 => some (.iptr [.opq])
  | 2 => some (.iptr [.opq])
  | 3 => some (.iptr (pow10V.map .sc))
  | _ => none
def AA : AProg := progOf fsA xsA mdA glA
noncomputable abbrev call (k : Nat) (args : List AV) (S : AS) : Option (AV × AS) := docall AA (run AA) k args S
theorem a25 : AA.ext 25 = none ∧ AA.funcs 25 = some f25 ∧ AA.mode 25 = .keep := ⟨by kernel_rfl, by kernel_rfl, by kernel_rfl⟩
theorem a26 : AA.ext 26 = none ∧ AA.funcs 26 = some f26 ∧ AA.mode 26 = .keep := ⟨by kernel_rfl, by kernel_rfl, by kernel_rfl⟩
theorem a59 : AA.ext 59 = none ∧ AA.funcs 59 = some f59 ∧ AA.mode 59 = .calm := ⟨by kernel_rfl, by kernel_rfl, by kernel_rfl⟩
theorem a62 : AA.ext 62 = none ∧ AA.funcs 62 = some f62 ∧ AA.mode 62 = .calm := ⟨by kernel_rfl, by kernel_rfl, by kernel_rfl⟩
theorem a64 : AA.ext 64 = none ∧ AA.funcs 64 = some f64 ∧ AA.mode 64 = .calm := ⟨by kernel_rfl, by kernel_rfl, by kernel_rfl⟩
theorem a66 : AA.ext 66 = none ∧ AA.funcs 66 = some f66 ∧ AA.mode 66 = .calm := ⟨by kernel_rfl, by kernel_rfl, by kernel_rfl⟩
theorem a68 : AA.ext 68 = none ∧ AA.funcs 68 = some f68 ∧ AA.mode 68 = .calm := ⟨by kernel_rfl, by kernel_rfl, by kernel_rfl⟩
theorem a72 : AA.ext 72 = none ∧ AA.funcs 72 = some f72 ∧ AA.mode 72 = .calm := ⟨by kernel_rfl, by kernel_rfl, by kernel_rfl⟩
theorem a74 : AA.ext 74 = none ∧ AA.funcs 74 = some f74 ∧ AA.mode 74 = .calm := ⟨by kernel_rfl, by kernel_rfl, by kernel_rfl⟩
theorem a76 : AA.ext 76 = none ∧ AA.funcs 76 = some f76 ∧ AA.mode 76 = .calm := ⟨by kernel_rfl, by kernel_rfl, by kernel_rfl⟩
theorem a78 : AA.ext 78 = none ∧ AA.funcs 78 = some f78 ∧ AA.mode 78 = .calm := ⟨by kernel_rfl, by kernel_rfl, by kernel_rfl⟩
theorem a81 : AA.ext 81 = none ∧ AA.funcs 81 = some f81 ∧ AA.mode 81 = .calm := ⟨by kernel_rfl, by kernel_rfl, by kernel_rfl⟩
theorem a83 : AA.ext 83 = none ∧ AA.funcs 83 = some f83 ∧ AA.mode 83 = .calm := ⟨by kernel_rfl, by kernel_rfl, by kernel_rfl⟩
theorem a85 : AA.ext 85 = none ∧ AA.funcs 85 = some f85 ∧ AA.mode 85 = .calm := ⟨by kernel_rfl, by kernel_rfl, by kernel_rfl⟩
theorem a87 : AA.ext 87 = none ∧ AA.funcs 87 = some f87 ∧ AA.mode 87 = .calm := ⟨by kernel_rfl, by kernel_rfl, by kernel_rfl⟩
theorem a92 : AA.ext 92 = none ∧ AA.funcs 92 = some f92 ∧ AA.mode 92 = .calm := ⟨by kernel_rfl, by kernel_rfl, by kernel_rfl⟩
theorem a96 : AA.ext 96 = none ∧ AA.funcs 96 = some f96 ∧ AA.mode 96 = .calm := ⟨by kernel_rfl, by kernel_rfl, by kernel_rfl⟩
theorem a107 : AA.ext 107 = none ∧ AA.funcs 107 = some f107 ∧ AA.mode 107 = .calm := ⟨by kernel_rfl, by kernel_rfl, by kernel_rfl⟩
theorem a109 : AA.ext 109 = none ∧ AA.funcs 109 = some f109 ∧ AA.mode 109 = .calm := ⟨by kernel_rfl, by kernel_rfl, by kernel_rfl⟩
theorem a110 : AA.ext 110 = none ∧ AA.funcs 110 = some f110 ∧ AA.mode 110 = .calm := ⟨by kernel_rfl, by kernel_rfl, by kernel_rfl⟩
theorem a112 : AA.ext 112 = none ∧ AA.funcs 112 = some f112 ∧ AA.mode 112 = .calm := ⟨by kernel_rfl, by kernel_rfl, by kernel_rfl⟩
theorem a114 : AA.ext 114 = none ∧ AA.funcs 114 = some f114 ∧ AA.mode 114 = .calm := ⟨by kernel_rfl, by kernel_rfl, by kernel_rfl⟩
theorem a115 : AA.ext 115 = none ∧ AA.funcs 115 = some f115 ∧ AA.mode 115 = .calm := ⟨by kernel_rfl, by kernel_rfl, by kernel_rfl⟩
theorem a116 : AA.ext 116 = none ∧ AA.funcs 116 = some f116 ∧ AA.mode 116 = .calm := ⟨by kernel_rfl, by kernel_rfl, by kernel_rfl⟩
theorem a117 : AA.ext 117 = none ∧ AA.funcs 117 = some f117 ∧ AA.mode 117 = .calm := ⟨by kernel_rfl, by kernel_rfl, by kernel_rfl⟩
theorem a118 : AA.ext 118 = none ∧ AA.funcs 118 = some f118 ∧ AA.mode 118 = .calm := ⟨by kernel_rfl, by kernel_rfl, by kernel_rfl⟩
theorem a121 : AA.ext 121 = none ∧ AA.funcs 121 = some f121 ∧ AA.mode 121 = .calm := ⟨by kernel_rfl, by kernel_rfl, by kernel_rfl⟩
theorem a122 : AA.ext 122 = none ∧ AA.funcs 122 = some f122 ∧ AA.mode 122 = .calm := ⟨by kernel_rfl, by kernel_rfl, by kernel_rfl⟩
theorem a126 : AA.ext 126 = none ∧ AA.funcs 126 = some f126 ∧ AA.mode 126 = .calm := ⟨by kernel_rfl, by kernel_rfl, by kernel_rfl⟩
theorem a128 : AA.ext 128 = none ∧ AA.funcs 128 = some f128 ∧ AA.mode 128 = .calm := ⟨by kernel_rfl, by kernel_rfl, by kernel_rfl⟩
theorem a129 : AA.ext 129 = none ∧ AA.funcs 129 = some f129 ∧ AA.mode 129 = .calm := ⟨by kernel_rfl, by kernel_rfl, by kernel_rfl⟩
theorem a130 : AA.ext 130 = none ∧ AA.funcs 130 = some f130 ∧ AA.mode 130 = .calm := ⟨by kernel_rfl, by kernel_rfl, by kernel_rfl⟩
theorem a191 : AA.ext 191 = none ∧ AA.funcs 191 = some f191 ∧ AA.mode 191 = .keep := ⟨by kernel_rfl, by kernel_rfl, by kernel_rfl⟩
theorem a192 : AA.ext 192 = none ∧ AA.funcs 192 = some f192 ∧ AA.mode 192 = .calm := ⟨by kernel_rfl, by kernel_rfl, by kernel_rfl⟩
theorem a194 : AA.ext 194 = none ∧ AA.funcs 194 = some f194 ∧ AA.mode 194 = .calm := ⟨by kernel_rfl, by kernel_rfl, by kernel_rfl⟩
theorem a195 : AA.ext 195 = none ∧ AA.funcs 195 = some f195 ∧ AA.mode 195 = .calm := ⟨by kernel_rfl, by kernel_rfl, by kernel_rfl⟩
theorem a210 : AA.ext 210 = none ∧ AA.funcs 210 = some f210 ∧ AA.mode 210 = .calm := ⟨by kernel_rfl, by kernel_rfl, by kernel_rfl⟩
theorem a214 : AA.ext 214 = none ∧ AA.funcs 214 = some f214 ∧ AA.mode 214 = .keep := ⟨by kernel_rfl, by kernel_rfl, by kernel_rfl⟩
theorem a215 : AA.ext 215 = none ∧ AA.funcs 215 = some f215 ∧ AA.mode 215 = .keep := ⟨by kernel_rfl, by kernel_rfl, by kernel_rfl⟩
theorem a216 : AA.ext 216 = none ∧ AA.funcs 216 = some f216 ∧ AA.mode 216 = .keep := ⟨by kernel_rfl, by kernel_rfl, by kernel_rfl⟩
theorem a217 : AA.ext 217 = none ∧ AA.funcs 217 = some f217 ∧ AA.mode 217 = .keep := ⟨by kernel_rfl, by kernel_rfl, by kernel_rfl⟩
theorem a218 : AA.ext 218 = none ∧ AA.funcs 218 = some f218 ∧ AA.mode 218 = .keep := ⟨by kernel_rfl, by kernel_rfl, by kernel_rfl⟩
theorem a221 : AA.ext 221 = none ∧ AA.funcs 221 = some f221 ∧ AA.mode 221 = .calm := ⟨by kernel_rfl, by kernel_rfl, by kernel_rfl⟩
theorem a222 : AA.ext 222 = none ∧ AA.funcs 222 = some f222 ∧ AA.mode 222 = .calm := ⟨by kernel_rfl, by kernel_rfl, by kernel_rfl⟩
theorem a223 : AA.ext 223 = none ∧ AA.funcs 223 = some f223 ∧ AA.mode 223 = .calm := ⟨by kernel_rfl, by kernel_rfl, by kernel_rfl⟩
theorem a224 : AA.ext 224 = none ∧ AA.funcs 224 = some f224 ∧ AA.mode 224 = .keep := ⟨by kernel_rfl, by kernel_rfl, by kernel_rfl⟩
theorem a227 : AA.ext 227 = none ∧ AA.funcs 227 = some f227 ∧ AA.mode 227 = .calm := ⟨by kernel_rfl, by kernel_rfl, by kernel_rfl⟩
theorem a228 : AA.ext 228 = none ∧ AA.funcs 228 = some f228 ∧ AA.mode 228 = .calm := ⟨by kernel_rfl, by kernel_rfl, by kernel_rfl⟩
theorem a229 : AA.ext 229 = none ∧ AA.funcs 229 = some f229 ∧ AA.mode 229 = .calm := ⟨by kernel_rfl, by kernel_rfl, by kernel_rfl⟩
theorem a230 : AA.ext 230 = none ∧ AA.funcs 230 = some f230 ∧ AA.mode 230 = .keep := ⟨by kernel_rfl, by kernel_rfl, by kernel_rfl⟩
theorem a231 : AA.ext 231 = none ∧ AA.funcs 231 = some f231 ∧ AA.mode 231 = .keep := ⟨by kernel_rfl, by kernel_rfl, by kernel_rfl⟩
theorem a254 : AA.ext 254 = none ∧ AA.funcs 254 = some f254 ∧ AA.mode 254 = .calm := ⟨by kernel_rfl, by kernel_rfl, by kernel_rfl⟩
theorem a257 : AA.ext 257 = none ∧ AA.funcs 257 = some f257 ∧ AA.mode 257 = .keep := ⟨by kernel_rfl, by kernel_rfl, by kernel_rfl⟩
theorem a304 : AA.ext 304 = none ∧ AA.funcs 304 = some f304 ∧ AA.mode 304 = .keep := ⟨by kernel_rfl, by kernel_rfl, by kernel_rfl⟩
theorem a306 : AA.ext 306 = none ∧ AA.funcs 306 = some f306 ∧ AA.mode 306 = .calm := ⟨by kernel_rfl, by kernel_rfl, by kernel_rfl⟩
theorem a315 : AA.ext 315 = none ∧ AA.funcs 315 = some f315 ∧ AA.mode 315 = .calm := ⟨by kernel_rfl, by kernel_rfl, by kernel_rfl⟩
theorem a319 : AA.ext 319 = none ∧ AA.funcs 319 = some f319 ∧ AA.mode 319 = .calm := ⟨by kernel_rfl, by kernel_rfl, by kernel_rfl⟩
theorem a320 : AA.ext 320 = none ∧ AA.funcs 320 = some f320 ∧ AA.mode 320 = .keep := ⟨by kernel_rfl, by kernel_rfl, by kernel_rfl⟩
theorem a321 : AA.ext 321 = none ∧ AA.funcs 321 = some f321 ∧ AA.mode 321 = .calm := ⟨by kernel_rfl, by kernel_rfl, by kernel_rfl⟩
theorem a322 : AA.ext 322 = none ∧ AA.funcs 322 = some f322 ∧ AA.mode 322 = .calm := ⟨by kernel_rfl, by kernel_rfl, by kernel_rfl⟩
theorem a325 : AA.ext 325 = none ∧ AA.funcs 325 = some f325 ∧ AA.mode 325 = .keep := ⟨by kernel_rfl, by kernel_rfl, by kernel_rfl⟩
theorem a326 : AA.ext 326 = none ∧ AA.funcs 326 = some f326 ∧ AA.mode 326 = .keep := ⟨by kernel_rfl, by kernel_rfl, by kernel_rfl⟩
theorem a327 : AA.ext 327 = none ∧ AA.funcs 327 = some f327 ∧ AA.mode 327 = .keep := ⟨by kernel_rfl, by kernel_rfl, by kernel_rfl⟩
theorem a328 : AA.ext 328 = none ∧ AA.funcs 328 = some f328 ∧ AA.mode 328 = .keep := ⟨by kernel_rfl, by kernel_rfl, by kernel_rfl⟩
theorem a355 : AA.ext 355 = none ∧ AA.funcs 355 = some f355 ∧ AA.mode 355 = .keep := ⟨by kernel_rfl, by kernel_rfl, by kernel_rfl⟩
theorem a360 : AA.ext 360 = none ∧ AA.funcs 360 = some f360 ∧ AA.mode 360 = .calm := ⟨by kernel_rfl, by kernel_rfl, by kernel_rfl⟩
theorem a398 : AA.ext 398 = none ∧ AA.funcs 398 = some f398 ∧ AA.mode 398 = .calm := ⟨by kernel_rfl, by kernel_rfl, by kernel_rfl⟩
theorem a408 : AA.ext 408 = none ∧ AA.funcs 408 = some f408 ∧ AA.mode 408 = .keep := ⟨by kernel_rfl, by kernel_rfl, by kernel_rfl⟩
theorem a412 : AA.ext 412 = none ∧ AA.funcs 412 = some f412 ∧ AA.mode 412 = .keep := ⟨by kernel_rfl, by kernel_rfl, by kernel_rfl⟩
theorem a413 : AA.ext 413 = none ∧ AA.funcs 413 = some f413 ∧ AA.mode 413 = .keep := ⟨by kernel_rfl, by kernel_rfl, by kernel_rfl⟩
theorem a414 : AA.ext 414 = none ∧ AA.funcs 414 = some f414 ∧ AA.mode 414 = .keep := ⟨by kernel_rfl, by kernel_rfl, by kernel_rfl⟩
theorem a415 : AA.ext 415 = none ∧ AA.funcs 415 = some f415 ∧ AA.mode 415 = .keep := ⟨by kernel_rfl, by kernel_rfl, by kernel_rfl⟩
theorem a193 : AA.ext 193 = some itoaG := by kernel_rfl
theorem a196 : AA.ext 196 = some atoiG := by kernel_rfl
theorem a256 : AA.ext 256 = some (cloneG 3 48) := by kernel_rfl
theorem a324 : AA.ext 324 = some joinG := by kernel_rfl
end Abs
