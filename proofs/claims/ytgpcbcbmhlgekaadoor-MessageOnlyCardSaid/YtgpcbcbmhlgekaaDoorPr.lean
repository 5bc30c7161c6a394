/- The program of the abstract machine. -/
import Derived.Test.YtgpcbcbmhlgekaaDoorE4
import Derived.Test.YtgpcbcbmhlgekaaDoorE3
import Derived.KernelRfl
import Derived.Test.YtgpcbcbmhlgekaaDoorC1
set_option linter.unusedVariables false
set_option linter.unusedSimpArgs false
set_option linter.unusedSectionVars false
namespace Abs
open Go
def fsA : List (Nat × AFunc) := [(12, f12), (13, f13), (15, f15), (16, f16), (59, f59), (60, f60), (61, f61), (62, f62), (63, f63), (64, f64), (65, f65), (66, f66), (67, f67), (68, f68), (69, f69), (70, f70), (71, f71), (72, f72), (73, f73), (74, f74), (75, f75), (76, f76), (77, f77), (78, f78), (79, f79), (80, f80), (81, f81), (82, f82), (83, f83), (84, f84), (85, f85), (86, f86), (87, f87), (88, f88), (89, f89), (90, f90), (91, f91), (92, f92), (93, f93), (94, f94), (95, f95), (96, f96), (97, f97), (126, f126), (130, f130), (139, f139), (142, f142), (161, f161), (191, f191), (192, f192), (194, f194), (195, f195), (228, f228), (249, f249), (304, f304), (306, f306), (398, f398)]
def xsA : List (Nat × (List AV → AS → Option (AV × AS))) := [(193, itoaG), (196, atoiG), (256, (cloneG 3 48))]
def mdA : Nat → Mode := fun k => if k < 49 || [191, 304].contains k then .keep else .calm
def kindsV : List AV := [.s ⟨#[]⟩, .i (0), .b false, .s ⟨#[100]⟩, .i (0), .b true, .s ⟨#[97]⟩, .i (0), .b true, .s ⟨#[112]⟩, .i (-1), .b false, .s ⟨#[101]⟩, .i (2), .b false, .s ⟨#[109]⟩, .i (2), .b false, .s ⟨#[104]⟩, .i (1), .b false, .s ⟨#[107]⟩, .i (1), .b true, .s ⟨#[117]⟩, .i (1), .b false, .s ⟨#[115]⟩, .i (2), .b false, .s ⟨#[120]⟩, .i (2), .b false]
def glA : Nat → Option AV := fun n => match n with
  | 0 => some (.iptr kindsV)
  | 1 => some (.iptr [.opq])
  | 2 => some (.iptr [.opq])
  | 3 => some (.iptr (pow10V.map .sc))
  | _ => none
def AA : AProg := progOf fsA xsA mdA glA
noncomputable abbrev call (k : Nat) (args : List AV) (S : AS) : Option (AV × AS) := docall AA (run AA) k args S
theorem a12 : AA.ext 12 = none ∧ AA.funcs 12 = some f12 ∧ AA.mode 12 = .keep := ⟨by kernel_rfl, by kernel_rfl, by kernel_rfl⟩
theorem a13 : AA.ext 13 = none ∧ AA.funcs 13 = some f13 ∧ AA.mode 13 = .keep := ⟨by kernel_rfl, by kernel_rfl, by kernel_rfl⟩
theorem a15 : AA.ext 15 = none ∧ AA.funcs 15 = some f15 ∧ AA.mode 15 = .keep := ⟨by kernel_rfl, by kernel_rfl, by kernel_rfl⟩
theorem a16 : AA.ext 16 = none ∧ AA.funcs 16 = some f16 ∧ AA.mode 16 = .keep := ⟨by kernel_rfl, by kernel_rfl, by kernel_rfl⟩
theorem a59 : AA.ext 59 = none ∧ AA.funcs 59 = some f59 ∧ AA.mode 59 = .calm := ⟨by kernel_rfl, by kernel_rfl, by kernel_rfl⟩
theorem a60 : AA.ext 60 = none ∧ AA.funcs 60 = some f60 ∧ AA.mode 60 = .calm := ⟨by kernel_rfl, by kernel_rfl, by kernel_rfl⟩
theorem a61 : AA.ext 61 = none ∧ AA.funcs 61 = some f61 ∧ AA.mode 61 = .calm := ⟨by kernel_rfl, by kernel_rfl, by kernel_rfl⟩
theorem a62 : AA.ext 62 = none ∧ AA.funcs 62 = some f62 ∧ AA.mode 62 = .calm := ⟨by kernel_rfl, by kernel_rfl, by kernel_rfl⟩
theorem a63 : AA.ext 63 = none ∧ AA.funcs 63 = some f63 ∧ AA.mode 63 = .calm := ⟨by kernel_rfl, by kernel_rfl, by kernel_rfl⟩
theorem a64 : AA.ext 64 = none ∧ AA.funcs 64 = some f64 ∧ AA.mode 64 = .calm := ⟨by kernel_rfl, by kernel_rfl, by kernel_rfl⟩
theorem a65 : AA.ext 65 = none ∧ AA.funcs 65 = some f65 ∧ AA.mode 65 = .calm := ⟨by kernel_rfl, by kernel_rfl, by kernel_rfl⟩
theorem a66 : AA.ext 66 = none ∧ AA.funcs 66 = some f66 ∧ AA.mode 66 = .calm := ⟨by kernel_rfl, by kernel_rfl, by kernel_rfl⟩
theorem a67 : AA.ext 67 = none ∧ AA.funcs 67 = some f67 ∧ AA.mode 67 = .calm := ⟨by kernel_rfl, by kernel_rfl, by kernel_rfl⟩
theorem a68 : AA.ext 68 = none ∧ AA.funcs 68 = some f68 ∧ AA.mode 68 = .calm := ⟨by kernel_rfl, by kernel_rfl, by kernel_rfl⟩
theorem a69 : AA.ext 69 = none ∧ AA.funcs 69 = some f69 ∧ AA.mode 69 = .calm := ⟨by kernel_rfl, by kernel_rfl, by kernel_rfl⟩
theorem a70 : AA.ext 70 = none ∧ AA.funcs 70 = some f70 ∧ AA.mode 70 = .calm := ⟨by kernel_rfl, by kernel_rfl, by kernel_rfl⟩
theorem a71 : AA.ext 71 = none ∧ AA.funcs 71 = some f71 ∧ AA.mode 71 = .calm := ⟨by kernel_rfl, by kernel_rfl, by kernel_rfl⟩
theorem a72 : AA.ext 72 = none ∧ AA.funcs 72 = some f72 ∧ AA.mode 72 = .calm := ⟨by kernel_rfl, by kernel_rfl, by kernel_rfl⟩
theorem a73 : AA.ext 73 = none ∧ AA.funcs 73 = some f73 ∧ AA.mode 73 = .calm := ⟨by kernel_rfl, by kernel_rfl, by kernel_rfl⟩
theorem a74 : AA.ext 74 = none ∧ AA.funcs 74 = some f74 ∧ AA.mode 74 = .calm := ⟨by kernel_rfl, by kernel_rfl, by kernel_rfl⟩
theorem a75 : AA.ext 75 = none ∧ AA.funcs 75 = some f75 ∧ AA.mode 75 = .calm := ⟨by kernel_rfl, by kernel_rfl, by kernel_rfl⟩
theorem a76 : AA.ext 76 = none ∧ AA.funcs 76 = some f76 ∧ AA.mode 76 = .calm := ⟨by kernel_rfl, by kernel_rfl, by kernel_rfl⟩
theorem a77 : AA.ext 77 = none ∧ AA.funcs 77 = some f77 ∧ AA.mode 77 = .calm := ⟨by kernel_rfl, by kernel_rfl, by kernel_rfl⟩
theorem a78 : AA.ext 78 = none ∧ AA.funcs 78 = some f78 ∧ AA.mode 78 = .calm := ⟨by kernel_rfl, by kernel_rfl, by kernel_rfl⟩
theorem a79 : AA.ext 79 = none ∧ AA.funcs 79 = some f79 ∧ AA.mode 79 = .calm := ⟨by kernel_rfl, by kernel_rfl, by kernel_rfl⟩
theorem a80 : AA.ext 80 = none ∧ AA.funcs 80 = some f80 ∧ AA.mode 80 = .calm := ⟨by kernel_rfl, by kernel_rfl, by kernel_rfl⟩
theorem a81 : AA.ext 81 = none ∧ AA.funcs 81 = some f81 ∧ AA.mode 81 = .calm := ⟨by kernel_rfl, by kernel_rfl, by kernel_rfl⟩
theorem a82 : AA.ext 82 = none ∧ AA.funcs 82 = some f82 ∧ AA.mode 82 = .calm := ⟨by kernel_rfl, by kernel_rfl, by kernel_rfl⟩
theorem a83 : AA.ext 83 = none ∧ AA.funcs 83 = some f83 ∧ AA.mode 83 = .calm := ⟨by kernel_rfl, by kernel_rfl, by kernel_rfl⟩
theorem a84 : AA.ext 84 = none ∧ AA.funcs 84 = some f84 ∧ AA.mode 84 = .calm := ⟨by kernel_rfl, by kernel_rfl, by kernel_rfl⟩
theorem a85 : AA.ext 85 = none ∧ AA.funcs 85 = some f85 ∧ AA.mode 85 = .calm := ⟨by kernel_rfl, by kernel_rfl, by kernel_rfl⟩
theorem a86 : AA.ext 86 = none ∧ AA.funcs 86 = some f86 ∧ AA.mode 86 = .calm := ⟨by kernel_rfl, by kernel_rfl, by kernel_rfl⟩
theorem a87 : AA.ext 87 = none ∧ AA.funcs 87 = some f87 ∧ AA.mode 87 = .calm := ⟨by kernel_rfl, by kernel_rfl, by kernel_rfl⟩
theorem a88 : AA.ext 88 = none ∧ AA.funcs 88 = some f88 ∧ AA.mode 88 = .calm := ⟨by kernel_rfl, by kernel_rfl, by kernel_rfl⟩
theorem a89 : AA.ext 89 = none ∧ AA.funcs 89 = some f89 ∧ AA.mode 89 = .calm := ⟨by kernel_rfl, by kernel_rfl, by kernel_rfl⟩
theorem a90 : AA.ext 90 = none ∧ AA.funcs 90 = some f90 ∧ AA.mode 90 = .calm := ⟨by kernel_rfl, by kernel_rfl, by kernel_rfl⟩
theorem a91 : AA.ext 91 = none ∧ AA.funcs 91 = some f91 ∧ AA.mode 91 = .calm := ⟨by kernel_rfl, by kernel_rfl, by kernel_rfl⟩
theorem a92 : AA.ext 92 = none ∧ AA.funcs 92 = some f92 ∧ AA.mode 92 = .calm := ⟨by kernel_rfl, by kernel_rfl, by kernel_rfl⟩
theorem a93 : AA.ext 93 = none ∧ AA.funcs 93 = some f93 ∧ AA.mode 93 = .calm := ⟨by kernel_rfl, by kernel_rfl, by kernel_rfl⟩
theorem a94 : AA.ext 94 = none ∧ AA.funcs 94 = some f94 ∧ AA.mode 94 = .calm := ⟨by kernel_rfl, by kernel_rfl, by kernel_rfl⟩
theorem a95 : AA.ext 95 = none ∧ AA.funcs 95 = some f95 ∧ AA.mode 95 = .calm := ⟨by kernel_rfl, by kernel_rfl, by kernel_rfl⟩
theorem a96 : AA.ext 96 = none ∧ AA.funcs 96 = some f96 ∧ AA.mode 96 = .calm := ⟨by kernel_rfl, by kernel_rfl, by kernel_rfl⟩
theorem a97 : AA.ext 97 = none ∧ AA.funcs 97 = some f97 ∧ AA.mode 97 = .calm := ⟨by kernel_rfl, by kernel_rfl, by kernel_rfl⟩
theorem a126 : AA.ext 126 = none ∧ AA.funcs 126 = some f126 ∧ AA.mode 126 = .calm := ⟨by kernel_rfl, by kernel_rfl, by kernel_rfl⟩
theorem a130 : AA.ext 130 = none ∧ AA.funcs 130 = some f130 ∧ AA.mode 130 = .calm := ⟨by kernel_rfl, by kernel_rfl, by kernel_rfl⟩
theorem a139 : AA.ext 139 = none ∧ AA.funcs 139 = some f139 ∧ AA.mode 139 = .calm := ⟨by kernel_rfl, by kernel_rfl, by kernel_rfl⟩
theorem a142 : AA.ext 142 = none ∧ AA.funcs 142 = some f142 ∧ AA.mode 142 = .calm := ⟨by kernel_rfl, by kernel_rfl, by kernel_rfl⟩
theorem a161 : AA.ext 161 = none ∧ AA.funcs 161 = some f161 ∧ AA.mode 161 = .calm := ⟨by kernel_rfl, by kernel_rfl, by kernel_rfl⟩
theorem a191 : AA.ext 191 = none ∧ AA.funcs 191 = some f191 ∧ AA.mode 191 = .keep := ⟨by kernel_rfl, by kernel_rfl, by kernel_rfl⟩
theorem a192 : AA.ext 192 = none ∧ AA.funcs 192 = some f192 ∧ AA.mode 192 = .calm := ⟨by kernel_rfl, by kernel_rfl, by kernel_rfl⟩
theorem a194 : AA.ext 194 = none ∧ AA.funcs 194 = some f194 ∧ AA.mode 194 = .calm := ⟨by kernel_rfl, by kernel_rfl, by kernel_rfl⟩
theorem a195 : AA.ext 195 = none ∧ AA.funcs 195 = some f195 ∧ AA.mode 195 = .calm := ⟨by kernel_rfl, by kernel_rfl, by kernel_rfl⟩
theorem a228 : AA.ext 228 = none ∧ AA.funcs 228 = some f228 ∧ AA.mode 228 = .calm := ⟨by kernel_rfl, by kernel_rfl, by kernel_rfl⟩
theorem a249 : AA.ext 249 = none ∧ AA.funcs 249 = some f249 ∧ AA.mode 249 = .calm := ⟨by kernel_rfl, by kernel_rfl, by kernel_rfl⟩
theorem a304 : AA.ext 304 = none ∧ AA.funcs 304 = some f304 ∧ AA.mode 304 = .keep := ⟨by kernel_rfl, by kernel_rfl, by kernel_rfl⟩
theorem a306 : AA.ext 306 = none ∧ AA.funcs 306 = some f306 ∧ AA.mode 306 = .calm := ⟨by kernel_rfl, by kernel_rfl, by kernel_rfl⟩
theorem a398 : AA.ext 398 = none ∧ AA.funcs 398 = some f398 ∧ AA.mode 398 = .calm := ⟨by kernel_rfl, by kernel_rfl, by kernel_rfl⟩
theorem a193 : AA.ext 193 = some itoaG := by kernel_rfl
theorem a196 : AA.ext 196 = some atoiG := by kernel_rfl
theorem a256 : AA.ext 256 = some (cloneG 3 48) := by kernel_rfl
end Abs
