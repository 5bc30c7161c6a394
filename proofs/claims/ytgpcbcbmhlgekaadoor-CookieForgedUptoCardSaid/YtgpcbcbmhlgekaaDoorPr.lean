/- The program of the abstract machine. -/
import Derived.Test.YtgpcbcbmhlgekaaDoorE4
import Derived.Test.YtgpcbcbmhlgekaaDoorE3
import Derived.KernelRfl
import Derived.Test.YtgpcbcbmhlgekaaDoorC1
set_option linter.unusedVariables false
set_option linter.unusedSimpArgs false
set_option linter.unusedSectionVars false
namespace Abs
open Go
def fsA : List (Nat × AFunc) := [(20, f20), (107, f107), (108, f108), (109, f109), (110, f110), (112, f112), (114, f114), (115, f115), (116, f116), (117, f117), (118, f118), (121, f121), (122, f122), (126, f126), (128, f128), (192, f192), (195, f195), (209, f209), (210, f210), (214, f214), (215, f215), (216, f216), (217, f217), (218, f218), (221, f221), (222, f222), (223, f223), (224, f224), (227, f227), (228, f228), (306, f306), (315, f315), (319, f319), (320, f320), (321, f321), (322, f322), (398, f398), (408, f408)]
def xsA : List (Nat × (List AV → AS → Option (AV × AS))) := [(193, itoaG), (196, atoiG), (256, (cloneG 3 48)), (324, joinG)]
def mdA : Nat → Mode := fun k => if k = 193 then .keepF [] else if k < 49 || [214, 215, 216, 217, 218, 224, 320, 408].contains k then .keep else .calm
def kindsV : List AV := [.s ⟨#[]⟩, .i (0), .b false, .s ⟨#[100]⟩, .i (0), .b true, .s ⟨#[97]⟩, .i (0), .b true, .s ⟨#[112]⟩, .i (-1), .b false, .s ⟨#[101]⟩, .i (2), .b false, .s ⟨#[109]⟩, .i (2), .b false, .s ⟨#[104]⟩, .i (1), .b false, .s ⟨#[107]⟩, .i (1), .b true, .s ⟨#[117]⟩, .i (1), .b false, .s ⟨#[115]⟩, .i (2), .b false, .s ⟨#[120]⟩, .i (2), .b false]
def glA : Nat → Option AV := fun n => match n with
  | 0 => some (.iptr kindsV)
  | 1 => some (.iptr [.opq])
  | 2 => some (.iptr [.opq])
  | 3 => some (.iptr (pow10V.map .sc))
  | _ => none
theorem glA_pure : ∀ g v, glA g = some v → v.pure = true := by
  intro g v h
  unfold glA at h
  split at h <;> cases h <;> rfl
def AA : AProg := progOf fsA xsA mdA glA
noncomputable abbrev call (k : Nat) (args : List AV) (S : AS) : Option (AV × AS) := docall AA (run AA) k args S
theorem a20 : AA.ext 20 = none ∧ AA.funcs 20 = some f20 ∧ AA.mode 20 = .keep := ⟨by kernel_rfl, by kernel_rfl, by kernel_rfl⟩
theorem a107 : AA.ext 107 = none ∧ AA.funcs 107 = some f107 ∧ AA.mode 107 = .calm := ⟨by kernel_rfl, by kernel_rfl, by kernel_rfl⟩
theorem a108 : AA.ext 108 = none ∧ AA.funcs 108 = some f108 ∧ AA.mode 108 = .calm := ⟨by kernel_rfl, by kernel_rfl, by kernel_rfl⟩
theorem a109 : AA.ext 109 = none ∧ AA.funcs 109 = some f109 ∧ AA.mode 109 = .calm := ⟨by kernel_rfl, by kernel_rfl, by kernel_rfl⟩
theorem a110 : AA.ext 110 = none ∧ AA.funcs 110 = some f110 ∧ AA.mode 110 = .calm := ⟨by kernel_rfl, by kernel_rfl, by kernel_rfl⟩
theorem a112 : AA.ext 112 = none ∧ AA.funcs 112 = some f112 ∧ AA.mode 112 = .calm := ⟨by kernel_rfl, by kernel_rfl, by kernel_rfl⟩
theorem a114 : AA.ext 114 = none ∧ AA.funcs 114 = some f114 ∧ AA.mode 114 = .calm := ⟨by kernel_rfl, by kernel_rfl, by kernel_rfl⟩
theorem a115 : AA.ext 115 = none ∧ AA.funcs 115 = some f115 ∧ AA.mode 115 = .calm := ⟨by kernel_rfl, by kernel_rfl, by kernel_rfl⟩
theorem a116 : AA.ext 116 = none ∧ AA.funcs 116 = some f116 ∧ AA.mode 116 = .calm := ⟨by kernel_rfl, by kernel_rfl, by kernel_rfl⟩
theorem a117 : AA.ext 117 = none ∧ AA.funcs 117 = some f117 ∧ AA.mode 117 = .calm := ⟨by kernel_rfl, by kernel_rfl, by kernel_rfl⟩
theorem a118 : AA.ext 118 = none ∧ AA.funcs 118 = some f118 ∧ AA.mode 118 = .calm := ⟨by kernel_rfl, by kernel_rfl, by kernel_rfl⟩
theorem a121 : AA.ext 121 = none ∧ AA.funcs 121 = some f121 ∧ AA.mode 121 = .calm := ⟨by kernel_rfl, by kernel_rfl, by kernel_rfl⟩
theorem a122 : AA.ext 122 = none ∧ AA.funcs 122 = some f122 ∧ AA.mode 122 = .calm := ⟨by kernel_rfl, by kernel_rfl, by kernel_rfl⟩
theorem a126 : AA.ext 126 = none ∧ AA.funcs 126 = some f126 ∧ AA.mode 126 = .calm := ⟨by kernel_rfl, by kernel_rfl, by kernel_rfl⟩
theorem a128 : AA.ext 128 = none ∧ AA.funcs 128 = some f128 ∧ AA.mode 128 = .calm := ⟨by kernel_rfl, by kernel_rfl, by kernel_rfl⟩
theorem a192 : AA.ext 192 = none ∧ AA.funcs 192 = some f192 ∧ AA.mode 192 = .calm := ⟨by kernel_rfl, by kernel_rfl, by kernel_rfl⟩
theorem a195 : AA.ext 195 = none ∧ AA.funcs 195 = some f195 ∧ AA.mode 195 = .calm := ⟨by kernel_rfl, by kernel_rfl, by kernel_rfl⟩
theorem a209 : AA.ext 209 = none ∧ AA.funcs 209 = some f209 ∧ AA.mode 209 = .calm := ⟨by kernel_rfl, by kernel_rfl, by kernel_rfl⟩
theorem a210 : AA.ext 210 = none ∧ AA.funcs 210 = some f210 ∧ AA.mode 210 = .calm := ⟨by kernel_rfl, by kernel_rfl, by kernel_rfl⟩
theorem a214 : AA.ext 214 = none ∧ AA.funcs 214 = some f214 ∧ AA.mode 214 = .keep := ⟨by kernel_rfl, by kernel_rfl, by kernel_rfl⟩
theorem a215 : AA.ext 215 = none ∧ AA.funcs 215 = some f215 ∧ AA.mode 215 = .keep := ⟨by kernel_rfl, by kernel_rfl, by kernel_rfl⟩
theorem a216 : AA.ext 216 = none ∧ AA.funcs 216 = some f216 ∧ AA.mode 216 = .keep := ⟨by kernel_rfl, by kernel_rfl, by kernel_rfl⟩
theorem a217 : AA.ext 217 = none ∧ AA.funcs 217 = some f217 ∧ AA.mode 217 = .keep := ⟨by kernel_rfl, by kernel_rfl, by kernel_rfl⟩
theorem a218 : AA.ext 218 = none ∧ AA.funcs 218 = some f218 ∧ AA.mode 218 = .keep := ⟨by kernel_rfl, by kernel_rfl, by kernel_rfl⟩
theorem a221 : AA.ext 221 = none ∧ AA.funcs 221 = some f221 ∧ AA.mode 221 = .calm := ⟨by kernel_rfl, by kernel_rfl, by kernel_rfl⟩
theorem a222 : AA.ext 222 = none ∧ AA.funcs 222 = some f222 ∧ AA.mode 222 = .calm := ⟨by kernel_rfl, by kernel_rfl, by kernel_rfl⟩
theorem a223 : AA.ext 223 = none ∧ AA.funcs 223 = some f223 ∧ AA.mode 223 = .calm := ⟨by kernel_rfl, by kernel_rfl, by kernel_rfl⟩
theorem a224 : AA.ext 224 = none ∧ AA.funcs 224 = some f224 ∧ AA.mode 224 = .keep := ⟨by kernel_rfl, by kernel_rfl, by kernel_rfl⟩
theorem a227 : AA.ext 227 = none ∧ AA.funcs 227 = some f227 ∧ AA.mode 227 = .calm := ⟨by kernel_rfl, by kernel_rfl, by kernel_rfl⟩
theorem a228 : AA.ext 228 = none ∧ AA.funcs 228 = some f228 ∧ AA.mode 228 = .calm := ⟨by kernel_rfl, by kernel_rfl, by kernel_rfl⟩
theorem a306 : AA.ext 306 = none ∧ AA.funcs 306 = some f306 ∧ AA.mode 306 = .calm := ⟨by kernel_rfl, by kernel_rfl, by kernel_rfl⟩
theorem a315 : AA.ext 315 = none ∧ AA.funcs 315 = some f315 ∧ AA.mode 315 = .calm := ⟨by kernel_rfl, by kernel_rfl, by kernel_rfl⟩
theorem a319 : AA.ext 319 = none ∧ AA.funcs 319 = some f319 ∧ AA.mode 319 = .calm := ⟨by kernel_rfl, by kernel_rfl, by kernel_rfl⟩
theorem a320 : AA.ext 320 = none ∧ AA.funcs 320 = some f320 ∧ AA.mode 320 = .keep := ⟨by kernel_rfl, by kernel_rfl, by kernel_rfl⟩
theorem a321 : AA.ext 321 = none ∧ AA.funcs 321 = some f321 ∧ AA.mode 321 = .calm := ⟨by kernel_rfl, by kernel_rfl, by kernel_rfl⟩
theorem a322 : AA.ext 322 = none ∧ AA.funcs 322 = some f322 ∧ AA.mode 322 = .calm := ⟨by kernel_rfl, by kernel_rfl, by kernel_rfl⟩
theorem a398 : AA.ext 398 = none ∧ AA.funcs 398 = some f398 ∧ AA.mode 398 = .calm := ⟨by kernel_rfl, by kernel_rfl, by kernel_rfl⟩
theorem a408 : AA.ext 408 = none ∧ AA.funcs 408 = some f408 ∧ AA.mode 408 = .keep := ⟨by kernel_rfl, by kernel_rfl, by kernel_rfl⟩
theorem a193 : AA.ext 193 = some itoaG := by kernel_rfl
theorem a196 : AA.ext 196 = some atoiG := by kernel_rfl
theorem a256 : AA.ext 256 = some (cloneG 3 48) := by kernel_rfl
theorem a324 : AA.ext 324 = some joinG := by kernel_rfl
end Abs
