/- The program of the abstract machine. -/
import Derived.Test.YtgpcbcbmhlgekaaDoorE4
import Derived.Test.YtgpcbcbmhlgekaaDoorE3
import Derived.KernelRfl
import Derived.Test.YtgpcbcbmhlgekaaDoorC1
set_option linter.unusedVariables false
set_option linter.unusedSimpArgs false
set_option linter.unusedSectionVars false
namespace Abs
open Go
def fsA : List (Nat × AFunc) := [(12, f12), (13, f13), (15, f15), (16, f16), (17, f17), (18, f18), (20, f20), (21, f21), (22, f22), (23, f23), (24, f24), (59, f59), (60, f60), (61, f61), (62, f62), (63, f63), (64, f64), (65, f65), (66, f66), (67, f67), (68, f68), (69, f69), (70, f70), (71, f71), (72, f72), (73, f73), (74, f74), (75, f75), (76, f76), (77, f77), (78, f78), (79, f79), (80, f80), (81, f81), (82, f82), (83, f83), (84, f84), (85, f85), (86, f86), (87, f87), (88, f88), (89, f89), (90, f90), (91, f91), (92, f92), (93, f93), (94, f94), (95, f95), (96, f96), (97, f97), (107, f107), (108, f108), (109, f109), (110, f110), (111, f111), (112, f112), (113, f113), (114, f114), (115, f115), (116, f116), (117, f117), (118, f118), (121, f121), (122, f122), (123, f123), (124, f124), (125, f125), (126, f126), (127, f127), (128, f128), (130, f130), (139, f139), (142, f142), (161, f161), (191, f191), (192, f192), (194, f194), (195, f195), (209, f209), (210, f210), (211, f211), (212, f212), (213, f213), (214, f214), (215, f215), (216, f216), (217, f217), (218, f218), (219, f219), (220, f220), (221, f221), (222, f222), (223, f223), (224, f224), (227, f227), (228, f228), (229, f229), (243, f243), (249, f249), (304, f304), (306, f306), (314, f314), (315, f315), (316, f316), (317, f317), (318, f318), (319, f319), (320, f320), (321, f321), (322, f322), (346, f346), (347, f347), (398, f398), (408, f408), (419, f419), (420, f420), (1112, f112)]
def xsA : List (Nat × (List AV → AS → Option (AV × AS))) := [(193, itoaG), (196, atoiG), (256, (cloneG 3 48)), (324, joinG)]
def mdA : Nat → Mode := fun k => if k < 49 || [191, 214, 215, 216, 217, 218, 224, 304, 320, 408, 1112].contains k then .keep else .calm
def kindsV : List AV := [.s ⟨#[]⟩, .i (0), .b false, .s ⟨#[100]⟩, .i (0), .b true, .s ⟨#[97]⟩, .i (0), .b true, .s ⟨#[112]⟩, .i (-1), .b false, .s ⟨#[101]⟩, .i (2), .b false, .s ⟨#[109]⟩, .i (2), .b false, .s ⟨#[104]⟩, .i (1), .b false, .s ⟨#[107]⟩, .i (1), .b true, .s ⟨#[117]⟩, .i (1), .b false, .s ⟨#[115]⟩, .i (2), .b false, .s ⟨#[120]⟩, .i (2), .b false]
def glA : Nat → Option AV := fun n => match n with
  | 0 => some (.iptr kindsV)
  | 1 => some (.iptr [.opq])
  | 2 => some (.iptr [.opq])
  | 3 => some (.iptr (pow10V.map .sc))
  | _ => none
def AA : AProg := progOf fsA xsA mdA glA
noncomputable abbrev call (k : Nat) (args : List AV) (S : AS) : Option (AV × AS) := docall AA (run AA) k args S
theorem a12 : AA.ext 12 = none ∧ AA.funcs 12 = some f12 ∧ AA.mode 12 = .keep := ⟨by kernel_rfl, by kernel_rfl, by kernel_rfl⟩
theorem a13 : AA.ext 13 = none ∧ AA.funcs 13 = some f13 ∧ AA.mode 13 = .keep := ⟨by kernel_rfl, by kernel_rfl, by kernel_rfl⟩
theorem a15 : AA.ext 15 = none ∧ AA.funcs 15 = some f15 ∧ AA.mode 15 = .keep := ⟨by kernel_rfl, by kernel_rfl, by kernel_rfl⟩
theorem a16 : AA.ext 16 = none ∧ AA.funcs 16 = some f16 ∧ AA.mode 16 = .keep := ⟨by kernel_rfl, by kernel_rfl, by kernel_rfl⟩
theorem a17 : AA.ext 17 = none ∧ AA.funcs 17 = some f17 ∧ AA.mode 17 = .keep := ⟨by kernel_rfl, by kernel_rfl, by kernel_rfl⟩
theorem a18 : AA.ext 18 = none ∧ AA.funcs 18 = some f18 ∧ AA.mode 18 = .keep := ⟨by kernel_rfl, by kernel_rfl, by kernel_rfl⟩
theorem a20 : AA.ext 20 = none ∧ AA.funcs 20 = some f20 ∧ AA.mode 20 = .keep := ⟨by kernel_rfl, by kernel_rfl, by kernel_rfl⟩
theorem a21 : AA.ext 21 = none ∧ AA.funcs 21 = some f21 ∧ AA.mode 21 = .keep := ⟨by kernel_rfl, by kernel_rfl, by kernel_rfl⟩
theorem a22 : AA.ext 22 = none ∧ AA.funcs 22 = some f22 ∧ AA.mode 22 = .keep := ⟨by kernel_rfl, by kernel_rfl, by kernel_rfl⟩
theorem a23 : AA.ext 23 = none ∧ AA.funcs 23 = some f23 ∧ AA.mode 23 = .keep := ⟨by kernel_rfl, by kernel_rfl, by kernel_rfl⟩
theorem a24 : AA.ext 24 = none ∧ AA.funcs 24 = some f24 ∧ AA.mode 24 = .keep := ⟨by kernel_rfl, by kernel_rfl, by kernel_rfl⟩
theorem a59 : AA.ext 59 = none ∧ AA.funcs 59 = some f59 ∧ AA.mode 59 = .calm := ⟨by kernel_rfl, by kernel_rfl, by kernel_rfl⟩
theorem a60 : AA.ext 60 = none ∧ AA.funcs 60 = some f60 ∧ AA.mode 60 = .calm := ⟨by kernel_rfl, by kernel_rfl, by kernel_rfl⟩
theorem a61 : AA.ext 61 = none ∧ AA.funcs 61 = some f61 ∧ AA.mode 61 = .calm := ⟨by kernel_rfl, by kernel_rfl, by kernel_rfl⟩
theorem a62 : AA.ext 62 = none ∧ AA.funcs 62 = some f62 ∧ AA.mode 62 = .calm := ⟨by kernel_rfl, by kernel_rfl, by kernel_rfl⟩
theorem a63 : AA.ext 63 = none ∧ AA.funcs 63 = some f63 ∧ AA.mode 63 = .calm := ⟨by kernel_rfl, by kernel_rfl, by kernel_rfl⟩
theorem a64 : AA.ext 64 = none ∧ AA.funcs 64 = some f64 ∧ AA.mode 64 = .calm := ⟨by kernel_rfl, by kernel_rfl, by kernel_rfl⟩
theorem a65 : AA.ext 65 = none ∧ AA.funcs 65 = some f65 ∧ AA.mode 65 = .calm := ⟨by kernel_rfl, by kernel_rfl, by kernel_rfl⟩
theorem a66 : AA.ext 66 = none ∧ AA.funcs 66 = some f66 ∧ AA.mode 66 = .calm := ⟨by kernel_rfl, by kernel_rfl, by kernel_rfl⟩
theorem a67 : AA.ext 67 = none ∧ AA.funcs 67 = some f67 ∧ AA.mode 67 = .calm := ⟨by kernel_rfl, by kernel_rfl, by kernel_rfl⟩
theorem a68 : AA.ext 68 = none ∧ AA.funcs 68 = some f68 ∧ AA.mode 68 = .calm := ⟨by kernel_rfl, by kernel_rfl, by kernel_rfl⟩
theorem a69 : AA.ext 69 = none ∧ AA.funcs 69 = some f69 ∧ AA.mode 69 = .calm := ⟨by kernel_rfl, by kernel_rfl, by kernel_rfl⟩
theorem a70 : AA.ext 70 = none ∧ AA.funcs 70 = some f70 ∧ AA.mode 70 = .calm := ⟨by kernel_rfl, by kernel_rfl, by kernel_rfl⟩
theorem a71 : AA.ext 71 = none ∧ AA.funcs 71 = some f71 ∧ AA.mode 71 = .calm := ⟨by kernel_rfl, by kernel_rfl, by kernel_rfl⟩
theorem a72 : AA.ext 72 = none ∧ AA.funcs 72 = some f72 ∧ AA.mode 72 = .calm := ⟨by kernel_rfl, by kernel_rfl, by kernel_rfl⟩
theorem a73 : AA.ext 73 = none ∧ AA.funcs 73 = some f73 ∧ AA.mode 73 = .calm := ⟨by kernel_rfl, by kernel_rfl, by kernel_rfl⟩
theorem a74 : AA.ext 74 = none ∧ AA.funcs 74 = some f74 ∧ AA.mode 74 = .calm := ⟨by kernel_rfl, by kernel_rfl, by kernel_rfl⟩
theorem a75 : AA.ext 75 = none ∧ AA.funcs 75 = some f75 ∧ AA.mode 75 = .calm := ⟨by kernel_rfl, by kernel_rfl, by kernel_rfl⟩
theorem a76 : AA.ext 76 = none ∧ AA.funcs 76 = some f76 ∧ AA.mode 76 = .calm := ⟨by kernel_rfl, by kernel_rfl, by kernel_rfl⟩
theorem a77 : AA.ext 77 = none ∧ AA.funcs 77 = some f77 ∧ AA.mode 77 = .calm := ⟨by kernel_rfl, by kernel_rfl, by kernel_rfl⟩
theorem a78 : AA.ext 78 = none ∧ AA.funcs 78 = some f78 ∧ AA.mode 78 = .calm := ⟨by kernel_rfl, by kernel_rfl, by kernel_rfl⟩
theorem a79 : AA.ext 79 = none ∧ AA.funcs 79 = some f79 ∧ AA.mode 79 = .calm := ⟨by kernel_rfl, by kernel_rfl, by kernel_rfl⟩
theorem a80 : AA.ext 80 = none ∧ AA.funcs 80 = some f80 ∧ AA.mode 80 = .calm := ⟨by kernel_rfl, by kernel_rfl, by kernel_rfl⟩
theorem a81 : AA.ext 81 = none ∧ AA.funcs 81 = some f81 ∧ AA.mode 81 = .calm := ⟨by kernel_rfl, by kernel_rfl, by kernel_rfl⟩
theorem a82 : AA.ext 82 = none ∧ AA.funcs 82 = some f82 ∧ AA.mode 82 = .calm := ⟨by kernel_rfl, by kernel_rfl, by kernel_rfl⟩
theorem a83 : AA.ext 83 = none ∧ AA.funcs 83 = some f83 ∧ AA.mode 83 = .calm := ⟨by kernel_rfl, by kernel_rfl, by kernel_rfl⟩
theorem a84 : AA.ext 84 = none ∧ AA.funcs 84 = some f84 ∧ AA.mode 84 = .calm := ⟨by kernel_rfl, by kernel_rfl, by kernel_rfl⟩
theorem a85 : AA.ext 85 = none ∧ AA.funcs 85 = some f85 ∧ AA.mode 85 = .calm := ⟨by kernel_rfl, by kernel_rfl, by kernel_rfl⟩
theorem a86 : AA.ext 86 = none ∧ AA.funcs 86 = some f86 ∧ AA.mode 86 = .calm := ⟨by kernel_rfl, by kernel_rfl, by kernel_rfl⟩
theorem a87 : AA.ext 87 = none ∧ AA.funcs 87 = some f87 ∧ AA.mode 87 = .calm := ⟨by kernel_rfl, by kernel_rfl, by kernel_rfl⟩
theorem a88 : AA.ext 88 = none ∧ AA.funcs 88 = some f88 ∧ AA.mode 88 = .calm := ⟨by kernel_rfl, by kernel_rfl, by kernel_rfl⟩
theorem a89 : AA.ext 89 = none ∧ AA.funcs 89 = some f89 ∧ AA.mode 89 = .calm := ⟨by kernel_rfl, by kernel_rfl, by kernel_rfl⟩
theorem a90 : AA.ext 90 = none ∧ AA.funcs 90 = some f90 ∧ AA.mode 90 = .calm := ⟨by kernel_rfl, by kernel_rfl, by kernel_rfl⟩
theorem a91 : AA.ext 91 = none ∧ AA.funcs 91 = some f91 ∧ AA.mode 91 = .calm := ⟨by kernel_rfl, by kernel_rfl, by kernel_rfl⟩
theorem a92 : AA.ext 92 = none ∧ AA.funcs 92 = some f92 ∧ AA.mode 92 = .calm := ⟨by kernel_rfl, by kernel_rfl, by kernel_rfl⟩
theorem a93 : AA.ext 93 = none ∧ AA.funcs 93 = some f93 ∧ AA.mode 93 = .calm := ⟨by kernel_rfl, by kernel_rfl, by kernel_rfl⟩
theorem a94 : AA.ext 94 = none ∧ AA.funcs 94 = some f94 ∧ AA.mode 94 = .calm := ⟨by kernel_rfl, by kernel_rfl, by kernel_rfl⟩
theorem a95 : AA.ext 95 = none ∧ AA.funcs 95 = some f95 ∧ AA.mode 95 = .calm := ⟨by kernel_rfl, by kernel_rfl, by kernel_rfl⟩
theorem a96 : AA.ext 96 = none ∧ AA.funcs 96 = some f96 ∧ AA.mode 96 = .calm := ⟨by kernel_rfl, by kernel_rfl, by kernel_rfl⟩
theorem a97 : AA.ext 97 = none ∧ AA.funcs 97 = some f97 ∧ AA.mode 97 = .calm := ⟨by kernel_rfl, by kernel_rfl, by kernel_rfl⟩
theorem a107 : AA.ext 107 = none ∧ AA.funcs 107 = some f107 ∧ AA.mode 107 = .calm := ⟨by kernel_rfl, by kernel_rfl, by kernel_rfl⟩
theorem a108 : AA.ext 108 = none ∧ AA.funcs 108 = some f108 ∧ AA.mode 108 = .calm := ⟨by kernel_rfl, by kernel_rfl, by kernel_rfl⟩
theorem a109 : AA.ext 109 = none ∧ AA.funcs 109 = some f109 ∧ AA.mode 109 = .calm := ⟨by kernel_rfl, by kernel_rfl, by kernel_rfl⟩
theorem a110 : AA.ext 110 = none ∧ AA.funcs 110 = some f110 ∧ AA.mode 110 = .calm := ⟨by kernel_rfl, by kernel_rfl, by kernel_rfl⟩
theorem a111 : AA.ext 111 = none ∧ AA.funcs 111 = some f111 ∧ AA.mode 111 = .calm := ⟨by kernel_rfl, by kernel_rfl, by kernel_rfl⟩
theorem a112 : AA.ext 112 = none ∧ AA.funcs 112 = some f112 ∧ AA.mode 112 = .calm := ⟨by kernel_rfl, by kernel_rfl, by kernel_rfl⟩
theorem a113 : AA.ext 113 = none ∧ AA.funcs 113 = some f113 ∧ AA.mode 113 = .calm := ⟨by kernel_rfl, by kernel_rfl, by kernel_rfl⟩
theorem a114 : AA.ext 114 = none ∧ AA.funcs 114 = some f114 ∧ AA.mode 114 = .calm := ⟨by kernel_rfl, by kernel_rfl, by kernel_rfl⟩
theorem a115 : AA.ext 115 = none ∧ AA.funcs 115 = some f115 ∧ AA.mode 115 = .calm := ⟨by kernel_rfl, by kernel_rfl, by kernel_rfl⟩
theorem a116 : AA.ext 116 = none ∧ AA.funcs 116 = some f116 ∧ AA.mode 116 = .calm := ⟨by kernel_rfl, by kernel_rfl, by kernel_rfl⟩
theorem a117 : AA.ext 117 = none ∧ AA.funcs 117 = some f117 ∧ AA.mode 117 = .calm := ⟨by kernel_rfl, by kernel_rfl, by kernel_rfl⟩
theorem a118 : AA.ext 118 = none ∧ AA.funcs 118 = some f118 ∧ AA.mode 118 = .calm := ⟨by kernel_rfl, by kernel_rfl, by kernel_rfl⟩
theorem a121 : AA.ext 121 = none ∧ AA.funcs 121 = some f121 ∧ AA.mode 121 = .calm := ⟨by kernel_rfl, by kernel_rfl, by kernel_rfl⟩
theorem a122 : AA.ext 122 = none ∧ AA.funcs 122 = some f122 ∧ AA.mode 122 = .calm := ⟨by kernel_rfl, by kernel_rfl, by kernel_rfl⟩
theorem a123 : AA.ext 123 = none ∧ AA.funcs 123 = some f123 ∧ AA.mode 123 = .calm := ⟨by kernel_rfl, by kernel_rfl, by kernel_rfl⟩
theorem a124 : AA.ext 124 = none ∧ AA.funcs 124 = some f124 ∧ AA.mode 124 = .calm := ⟨by kernel_rfl, by kernel_rfl, by kernel_rfl⟩
theorem a125 : AA.ext 125 = none ∧ AA.funcs 125 = some f125 ∧ AA.mode 125 = .calm := ⟨by kernel_rfl, by kernel_rfl, by kernel_rfl⟩
theorem a126 : AA.ext 126 = none ∧ AA.funcs 126 = some f126 ∧ AA.mode 126 = .calm := ⟨by kernel_rfl, by kernel_rfl, by kernel_rfl⟩
theorem a127 : AA.ext 127 = none ∧ AA.funcs 127 = some f127 ∧ AA.mode 127 = .calm := ⟨by kernel_rfl, by kernel_rfl, by kernel_rfl⟩
theorem a128 : AA.ext 128 = none ∧ AA.funcs 128 = some f128 ∧ AA.mode 128 = .calm := ⟨by kernel_rfl, by kernel_rfl, by kernel_rfl⟩
theorem a130 : AA.ext 130 = none ∧ AA.funcs 130 = some f130 ∧ AA.mode 130 = .calm := ⟨by kernel_rfl, by kernel_rfl, by kernel_rfl⟩
theorem a139 : AA.ext 139 = none ∧ AA.funcs 139 = some f139 ∧ AA.mode 139 = .calm := ⟨by kernel_rfl, by kernel_rfl, by kernel_rfl⟩
theorem a142 : AA.ext 142 = none ∧ AA.funcs 142 = some f142 ∧ AA.mode 142 = .calm := ⟨by kernel_rfl, by kernel_rfl, by kernel_rfl⟩
theorem a161 : AA.ext 161 = none ∧ AA.funcs 161 = some f161 ∧ AA.mode 161 = .calm := ⟨by kernel_rfl, by kernel_rfl, by kernel_rfl⟩
theorem a191 : AA.ext 191 = none ∧ AA.funcs 191 = some f191 ∧ AA.mode 191 = .keep := ⟨by kernel_rfl, by kernel_rfl, by kernel_rfl⟩
theorem a192 : AA.ext 192 = none ∧ AA.funcs 192 = some f192 ∧ AA.mode 192 = .calm := ⟨by kernel_rfl, by kernel_rfl, by kernel_rfl⟩
theorem a194 : AA.ext 194 = none ∧ AA.funcs 194 = some f194 ∧ AA.mode 194 = .calm := ⟨by kernel_rfl, by kernel_rfl, by kernel_rfl⟩
theorem a195 : AA.ext 195 = none ∧ AA.funcs 195 = some f195 ∧ AA.mode 195 = .calm := ⟨by kernel_rfl, by kernel_rfl, by kernel_rfl⟩
theorem a209 : AA.ext 209 = none ∧ AA.funcs 209 = some f209 ∧ AA.mode 209 = .calm := ⟨by kernel_rfl, by kernel_rfl, by kernel_rfl⟩
theorem a210 : AA.ext 210 = none ∧ AA.funcs 210 = some f210 ∧ AA.mode 210 = .calm := ⟨by kernel_rfl, by kernel_rfl, by kernel_rfl⟩
theorem a211 : AA.ext 211 = none ∧ AA.funcs 211 = some f211 ∧ AA.mode 211 = .calm := ⟨by kernel_rfl, by kernel_rfl, by kernel_rfl⟩
theorem a212 : AA.ext 212 = none ∧ AA.funcs 212 = some f212 ∧ AA.mode 212 = .calm := ⟨by kernel_rfl, by kernel_rfl, by kernel_rfl⟩
theorem a213 : AA.ext 213 = none ∧ AA.funcs 213 = some f213 ∧ AA.mode 213 = .calm := ⟨by kernel_rfl, by kernel_rfl, by kernel_rfl⟩
theorem a214 : AA.ext 214 = none ∧ AA.funcs 214 = some f214 ∧ AA.mode 214 = .keep := ⟨by kernel_rfl, by kernel_rfl, by kernel_rfl⟩
theorem a215 : AA.ext 215 = none ∧ AA.funcs 215 = some f215 ∧ AA.mode 215 = .keep := ⟨by kernel_rfl, by kernel_rfl, by kernel_rfl⟩
theorem a216 : AA.ext 216 = none ∧ AA.funcs 216 = some f216 ∧ AA.mode 216 = .keep := ⟨by kernel_rfl, by kernel_rfl, by kernel_rfl⟩
theorem a217 : AA.ext 217 = none ∧ AA.funcs 217 = some f217 ∧ AA.mode 217 = .keep := ⟨by kernel_rfl, by kernel_rfl, by kernel_rfl⟩
theorem a218 : AA.ext 218 = none ∧ AA.funcs 218 = some f218 ∧ AA.mode 218 = .keep := ⟨by kernel_rfl, by kernel_rfl, by kernel_rfl⟩
theorem a219 : AA.ext 219 = none ∧ AA.funcs 219 = some f219 ∧ AA.mode 219 = .calm := ⟨by kernel_rfl, by kernel_rfl, by kernel_rfl⟩
theorem a220 : AA.ext 220 = none ∧ AA.funcs 220 = some f220 ∧ AA.mode 220 = .calm := ⟨by kernel_rfl, by kernel_rfl, by kernel_rfl⟩
theorem a221 : AA.ext 221 = none ∧ AA.funcs 221 = some f221 ∧ AA.mode 221 = .calm := ⟨by kernel_rfl, by kernel_rfl, by kernel_rfl⟩
theorem a222 : AA.ext 222 = none ∧ AA.funcs 222 = some f222 ∧ AA.mode 222 = .calm := ⟨by kernel_rfl, by kernel_rfl, by kernel_rfl⟩
theorem a223 : AA.ext 223 = none ∧ AA.funcs 223 = some f223 ∧ AA.mode 223 = .calm := ⟨by kernel_rfl, by kernel_rfl, by kernel_rfl⟩
theorem a224 : AA.ext 224 = none ∧ AA.funcs 224 = some f224 ∧ AA.mode 224 = .keep := ⟨by kernel_rfl, by kernel_rfl, by kernel_rfl⟩
theorem a227 : AA.ext 227 = none ∧ AA.funcs 227 = some f227 ∧ AA.mode 227 = .calm := ⟨by kernel_rfl, by kernel_rfl, by kernel_rfl⟩
theorem a228 : AA.ext 228 = none ∧ AA.funcs 228 = some f228 ∧ AA.mode 228 = .calm := ⟨by kernel_rfl, by kernel_rfl, by kernel_rfl⟩
theorem a229 : AA.ext 229 = none ∧ AA.funcs 229 = some f229 ∧ AA.mode 229 = .calm := ⟨by kernel_rfl, by kernel_rfl, by kernel_rfl⟩
theorem a243 : AA.ext 243 = none ∧ AA.funcs 243 = some f243 ∧ AA.mode 243 = .calm := ⟨by kernel_rfl, by kernel_rfl, by kernel_rfl⟩
theorem a249 : AA.ext 249 = none ∧ AA.funcs 249 = some f249 ∧ AA.mode 249 = .calm := ⟨by kernel_rfl, by kernel_rfl, by kernel_rfl⟩
theorem a304 : AA.ext 304 = none ∧ AA.funcs 304 = some f304 ∧ AA.mode 304 = .keep := ⟨by kernel_rfl, by kernel_rfl, by kernel_rfl⟩
theorem a306 : AA.ext 306 = none ∧ AA.funcs 306 = some f306 ∧ AA.mode 306 = .calm := ⟨by kernel_rfl, by kernel_rfl, by kernel_rfl⟩
theorem a314 : AA.ext 314 = none ∧ AA.funcs 314 = some f314 ∧ AA.mode 314 = .calm := ⟨by kernel_rfl, by kernel_rfl, by kernel_rfl⟩
theorem a315 : AA.ext 315 = none ∧ AA.funcs 315 = some f315 ∧ AA.mode 315 = .calm := ⟨by kernel_rfl, by kernel_rfl, by kernel_rfl⟩
theorem a316 : AA.ext 316 = none ∧ AA.funcs 316 = some f316 ∧ AA.mode 316 = .calm := ⟨by kernel_rfl, by kernel_rfl, by kernel_rfl⟩
theorem a317 : AA.ext 317 = none ∧ AA.funcs 317 = some f317 ∧ AA.mode 317 = .calm := ⟨by kernel_rfl, by kernel_rfl, by kernel_rfl⟩
theorem a318 : AA.ext 318 = none ∧ AA.funcs 318 = some f318 ∧ AA.mode 318 = .calm := ⟨by kernel_rfl, by kernel_rfl, by kernel_rfl⟩
theorem a319 : AA.ext 319 = none ∧ AA.funcs 319 = some f319 ∧ AA.mode 319 = .calm := ⟨by kernel_rfl, by kernel_rfl, by kernel_rfl⟩
theorem a320 : AA.ext 320 = none ∧ AA.funcs 320 = some f320 ∧ AA.mode 320 = .keep := ⟨by kernel_rfl, by kernel_rfl, by kernel_rfl⟩
theorem a321 : AA.ext 321 = none ∧ AA.funcs 321 = some f321 ∧ AA.mode 321 = .calm := ⟨by kernel_rfl, by kernel_rfl, by kernel_rfl⟩
theorem a322 : AA.ext 322 = none ∧ AA.funcs 322 = some f322 ∧ AA.mode 322 = .calm := ⟨by kernel_rfl, by kernel_rfl, by kernel_rfl⟩
theorem a346 : AA.ext 346 = none ∧ AA.funcs 346 = some f346 ∧ AA.mode 346 = .calm := ⟨by kernel_rfl, by kernel_rfl, by kernel_rfl⟩
theorem a347 : AA.ext 347 = none ∧ AA.funcs 347 = some f347 ∧ AA.mode 347 = .calm := ⟨by kernel_rfl, by kernel_rfl, by kernel_rfl⟩
theorem a398 : AA.ext 398 = none ∧ AA.funcs 398 = some f398 ∧ AA.mode 398 = .calm := ⟨by kernel_rfl, by kernel_rfl, by kernel_rfl⟩
theorem a408 : AA.ext 408 = none ∧ AA.funcs 408 = some f408 ∧ AA.mode 408 = .keep := ⟨by kernel_rfl, by kernel_rfl, by kernel_rfl⟩
theorem a419 : AA.ext 419 = none ∧ AA.funcs 419 = some f419 ∧ AA.mode 419 = .calm := ⟨by kernel_rfl, by kernel_rfl, by kernel_rfl⟩
theorem a420 : AA.ext 420 = none ∧ AA.funcs 420 = some f420 ∧ AA.mode 420 = .calm := ⟨by kernel_rfl, by kernel_rfl, by kernel_rfl⟩
theorem a1112 : AA.ext 1112 = none ∧ AA.funcs 1112 = some f112 ∧ AA.mode 1112 = .keep := ⟨by kernel_rfl, by kernel_rfl, by kernel_rfl⟩
theorem a193 : AA.ext 193 = some itoaG := by kernel_rfl
theorem a196 : AA.ext 196 = some atoiG := by kernel_rfl
theorem a256 : AA.ext 256 = some (cloneG 3 48) := by kernel_rfl
theorem a324 : AA.ext 324 = some joinG := by kernel_rfl
end Abs
