/- CookieForged holds, whatever the input of bulk at most 1048576: what was changed is no cookie, or another one. -/
import Derived.Test.YtgpcbcbmhlgekaaDoorLw
import Derived.Test.YtgpcbcbmhlgekaaDoorSh
import Derived.Test.YtgpcbcbmhlgekaaDoorPr
import Derived.Test.YtgpcbcbmhlgekaaDoorE4
import Derived.Test.YtgpcbcbmhlgekaaDoorCards
import Derived.Test.YtgpcbcbmhlgekaaDoorTie
import Derived.Deep.DeepWitnessRowRef
import Derived.LaidMore
import Derived.OpenShut
import Derived.ProofKit
import Derived.KernelRfl
set_option linter.unusedVariables false
set_option linter.unusedSimpArgs false
set_option linter.unusedSectionVars false
namespace Go.Proofs.YtgpcbcbmhlgekaaDoor
open Go Abs Go.RowKit

def kindsW : List Value := [.string ⟨#[]⟩, .int .i64 (0), .bool false, .string ⟨#[100]⟩, .int .i64 (0), .bool true, .string ⟨#[97]⟩, .int .i64 (0), .bool true, .string ⟨#[112]⟩, .int .i64 (-1), .bool false, .string ⟨#[101]⟩, .int .i64 (2), .bool false, .string ⟨#[109]⟩, .int .i64 (2), .bool false, .string ⟨#[104]⟩, .int .i64 (1), .bool false, .string ⟨#[107]⟩, .int .i64 (1), .bool true, .string ⟨#[117]⟩, .int .i64 (1), .bool false, .string ⟨#[115]⟩, .int .i64 (2), .bool false, .string ⟨#[120]⟩, .int .i64 (2), .bool false]
def kt : Nat → Option Nat := fun k => List.lookup k [(20, 9), (107, 55), (108, 56), (109, 57), (110, 58), (112, 60), (114, 62), (115, 63), (116, 64), (117, 65), (118, 66), (121, 67), (122, 68), (126, 72), (128, 74), (192, 79), (195, 84), (209, 86), (210, 87), (214, 91), (215, 92), (216, 93), (217, 94), (218, 95), (221, 98), (222, 99), (223, 100), (224, 101), (227, 102), (228, 103), (306, 110), (315, 114), (319, 119), (320, 120), (321, 121), (322, 122), (398, 132), (408, 140), (193, 81), (196, 85), (256, 124), (324, 123), (10000, 0), (10001, 2), (10002, 1), (10003, 3)]
theorem o20 : FnOk Tryd.prog kt mdA (fun k => (List.lookup k xsA).isSome) 20 f20 := .mk' (f := 9) (fn := Tryd.f9) rfl (by kernel_rfl) Tryd.func9 (by kernel_rfl)
theorem o107 : FnOk Tryd.prog kt mdA (fun k => (List.lookup k xsA).isSome) 107 f107 := .mk' (f := 55) (fn := Tryd.f55) rfl (by kernel_rfl) Tryd.func55 (by kernel_rfl)
theorem o108 : FnOk Tryd.prog kt mdA (fun k => (List.lookup k xsA).isSome) 108 f108 := .mk' (f := 56) (fn := Tryd.f56) rfl (by kernel_rfl) Tryd.func56 (by kernel_rfl)
theorem o109 : FnOk Tryd.prog kt mdA (fun k => (List.lookup k xsA).isSome) 109 f109 := .mk' (f := 57) (fn := Tryd.f57) rfl (by kernel_rfl) Tryd.func57 (by kernel_rfl)
theorem o110 : FnOk Tryd.prog kt mdA (fun k => (List.lookup k xsA).isSome) 110 f110 := .mk' (f := 58) (fn := Tryd.f58) rfl (by kernel_rfl) Tryd.func58 (by kernel_rfl)
theorem o112 : FnOk Tryd.prog kt mdA (fun k => (List.lookup k xsA).isSome) 112 f112 := .mk' (f := 60) (fn := Tryd.f60) rfl (by kernel_rfl) Tryd.func60 (by kernel_rfl)
theorem o114 : FnOk Tryd.prog kt mdA (fun k => (List.lookup k xsA).isSome) 114 f114 := .mk' (f := 62) (fn := Tryd.f62) rfl (by kernel_rfl) Tryd.func62 (by kernel_rfl)
theorem o115 : FnOk Tryd.prog kt mdA (fun k => (List.lookup k xsA).isSome) 115 f115 := .mk' (f := 63) (fn := Tryd.f63) rfl (by kernel_rfl) Tryd.func63 (by kernel_rfl)
theorem o116 : FnOk Tryd.prog kt mdA (fun k => (List.lookup k xsA).isSome) 116 f116 := .mk' (f := 64) (fn := Tryd.f64) rfl (by kernel_rfl) Tryd.func64 (by kernel_rfl)
theorem o117 : FnOk Tryd.prog kt mdA (fun k => (List.lookup k xsA).isSome) 117 f117 := .mk' (f := 65) (fn := Tryd.f65) rfl (by kernel_rfl) Tryd.func65 (by kernel_rfl)
theorem o118 : FnOk Tryd.prog kt mdA (fun k => (List.lookup k xsA).isSome) 118 f118 := .mk' (f := 66) (fn := Tryd.f66) rfl (by kernel_rfl) Tryd.func66 (by kernel_rfl)
theorem o121 : FnOk Tryd.prog kt mdA (fun k => (List.lookup k xsA).isSome) 121 f121 := .mk' (f := 67) (fn := Tryd.f67) rfl (by kernel_rfl) Tryd.func67 (by kernel_rfl)
theorem o122 : FnOk Tryd.prog kt mdA (fun k => (List.lookup k xsA).isSome) 122 f122 := .mk' (f := 68) (fn := Tryd.f68) rfl (by kernel_rfl) Tryd.func68 (by kernel_rfl)
theorem o126 : FnOk Tryd.prog kt mdA (fun k => (List.lookup k xsA).isSome) 126 f126 := .mk' (f := 72) (fn := Tryd.f72) rfl (by kernel_rfl) Tryd.func72 (by kernel_rfl)
theorem o128 : FnOk Tryd.prog kt mdA (fun k => (List.lookup k xsA).isSome) 128 f128 := .mk' (f := 74) (fn := Tryd.f74) rfl (by kernel_rfl) Tryd.func74 (by kernel_rfl)
theorem o192 : FnOk Tryd.prog kt mdA (fun k => (List.lookup k xsA).isSome) 192 f192 := .mk' (f := 79) (fn := Tryd.f79) rfl (by kernel_rfl) Tryd.func79 (by kernel_rfl)
theorem o195 : FnOk Tryd.prog kt mdA (fun k => (List.lookup k xsA).isSome) 195 f195 := .mk' (f := 84) (fn := Tryd.f84) rfl (by kernel_rfl) Tryd.func84 (by kernel_rfl)
theorem o209 : FnOk Tryd.prog kt mdA (fun k => (List.lookup k xsA).isSome) 209 f209 := .mk' (f := 86) (fn := Tryd.f86) rfl (by kernel_rfl) Tryd.func86 (by kernel_rfl)
theorem o210 : FnOk Tryd.prog kt mdA (fun k => (List.lookup k xsA).isSome) 210 f210 := .mk' (f := 87) (fn := Tryd.f87) rfl (by kernel_rfl) Tryd.func87 (by kernel_rfl)
theorem o214 : FnOk Tryd.prog kt mdA (fun k => (List.lookup k xsA).isSome) 214 f214 := .mk' (f := 91) (fn := Tryd.f91) rfl (by kernel_rfl) Tryd.func91 (by kernel_rfl)
theorem o215 : FnOk Tryd.prog kt mdA (fun k => (List.lookup k xsA).isSome) 215 f215 := .mk' (f := 92) (fn := Tryd.f92) rfl (by kernel_rfl) Tryd.func92 (by kernel_rfl)
theorem o216 : FnOk Tryd.prog kt mdA (fun k => (List.lookup k xsA).isSome) 216 f216 := .mk' (f := 93) (fn := Tryd.f93) rfl (by kernel_rfl) Tryd.func93 (by kernel_rfl)
theorem o217 : FnOk Tryd.prog kt mdA (fun k => (List.lookup k xsA).isSome) 217 f217 := .mk' (f := 94) (fn := Tryd.f94) rfl (by kernel_rfl) Tryd.func94 (by kernel_rfl)
theorem o218 : FnOk Tryd.prog kt mdA (fun k => (List.lookup k xsA).isSome) 218 f218 := .mk' (f := 95) (fn := Tryd.f95) rfl (by kernel_rfl) Tryd.func95 (by kernel_rfl)
theorem o221 : FnOk Tryd.prog kt mdA (fun k => (List.lookup k xsA).isSome) 221 f221 := .mk' (f := 98) (fn := Tryd.f98) rfl (by kernel_rfl) Tryd.func98 (by kernel_rfl)
theorem o222 : FnOk Tryd.prog kt mdA (fun k => (List.lookup k xsA).isSome) 222 f222 := .mk' (f := 99) (fn := Tryd.f99) rfl (by kernel_rfl) Tryd.func99 (by kernel_rfl)
theorem o223 : FnOk Tryd.prog kt mdA (fun k => (List.lookup k xsA).isSome) 223 f223 := .mk' (f := 100) (fn := Tryd.f100) rfl (by kernel_rfl) Tryd.func100 (by kernel_rfl)
theorem o224 : FnOk Tryd.prog kt mdA (fun k => (List.lookup k xsA).isSome) 224 f224 := .mk' (f := 101) (fn := Tryd.f101) rfl (by kernel_rfl) Tryd.func101 (by kernel_rfl)
theorem o227 : FnOk Tryd.prog kt mdA (fun k => (List.lookup k xsA).isSome) 227 f227 := .mk' (f := 102) (fn := Tryd.f102) rfl (by kernel_rfl) Tryd.func102 (by kernel_rfl)
theorem o228 : FnOk Tryd.prog kt mdA (fun k => (List.lookup k xsA).isSome) 228 f228 := .mk' (f := 103) (fn := Tryd.f103) rfl (by kernel_rfl) Tryd.func103 (by kernel_rfl)
theorem o306 : FnOk Tryd.prog kt mdA (fun k => (List.lookup k xsA).isSome) 306 f306 := .mk' (f := 110) (fn := Tryd.f110) rfl (by kernel_rfl) Tryd.func110 (by kernel_rfl)
theorem o315 : FnOk Tryd.prog kt mdA (fun k => (List.lookup k xsA).isSome) 315 f315 := .mk' (f := 114) (fn := Tryd.f114) rfl (by kernel_rfl) Tryd.func114 (by kernel_rfl)
theorem o319 : FnOk Tryd.prog kt mdA (fun k => (List.lookup k xsA).isSome) 319 f319 := .mk' (f := 119) (fn := Tryd.f119) rfl (by kernel_rfl) Tryd.func119 (by kernel_rfl)
theorem o320 : FnOk Tryd.prog kt mdA (fun k => (List.lookup k xsA).isSome) 320 f320 := .mk' (f := 120) (fn := Tryd.f120) rfl (by kernel_rfl) Tryd.func120 (by kernel_rfl)
theorem o321 : FnOk Tryd.prog kt mdA (fun k => (List.lookup k xsA).isSome) 321 f321 := .mk' (f := 121) (fn := Tryd.f121) rfl (by kernel_rfl) Tryd.func121 (by kernel_rfl)
theorem o322 : FnOk Tryd.prog kt mdA (fun k => (List.lookup k xsA).isSome) 322 f322 := .mk' (f := 122) (fn := Tryd.f122) rfl (by kernel_rfl) Tryd.func122 (by kernel_rfl)
theorem o398 : FnOk Tryd.prog kt mdA (fun k => (List.lookup k xsA).isSome) 398 f398 := .mk' (f := 132) (fn := Tryd.f132) rfl (by kernel_rfl) Tryd.func132 (by kernel_rfl)
theorem o408 : FnOk Tryd.prog kt mdA (fun k => (List.lookup k xsA).isSome) 408 f408 := .mk' (f := 140) (fn := Tryd.f140) rfl (by kernel_rfl) Tryd.func140 (by kernel_rfl)
theorem fo : AllFn Tryd.prog kt mdA (fun k => (List.lookup k xsA).isSome) fsA := .cons o20 (.cons o107 (.cons o108 (.cons o109 (.cons o110 (.cons o112 (.cons o114 (.cons o115 (.cons o116 (.cons o117 (.cons o118 (.cons o121 (.cons o122 (.cons o126 (.cons o128 (.cons o192 (.cons o195 (.cons o209 (.cons o210 (.cons o214 (.cons o215 (.cons o216 (.cons o217 (.cons o218 (.cons o221 (.cons o222 (.cons o223 (.cons o224 (.cons o227 (.cons o228 (.cons o306 (.cons o315 (.cons o319 (.cons o320 (.cons o321 (.cons o322 (.cons o398 (.cons o408 (.nil))))))))))))))))))))))))))))))))))))))
theorem x193 : ExOk Tryd.prog AA kt 193 itoaG := .mk' (f := 81) rfl (by kernel_rfl) (itoa_ok (f := 81) ⟨fun n h0 h1 w h => Tryd.strconv_Itoa n h0 h1 w h⟩ rfl rfl (by kernel_rfl)) (fun _ _ _ _ h _ => itoaG_low h) (fun _ _ _ _ _ _ h => itoaG_frm h)
theorem atoiC : AtoiC Tryd.prog 85 where
      ok s hs v h w := (Tryd.strconv_Atoi_ok s hs v h w).mono fun e w' ⟨h1, h2⟩ => ⟨h1, below_bytes h2⟩
      syn s hs h tp p w hv := (Tryd.strconv_Atoi_syntax_var s hs h tp p w hv).mono fun e w' ⟨N, h1, _, _, h2⟩ => ⟨_, _, h1, h2⟩
      rng s hs h tp p w hv := (Tryd.strconv_Atoi_range_var s hs h tp p w hv).mono fun e w' ⟨N, h1, _, _, h2⟩ => ⟨_, _, h1, h2⟩
theorem x196 : ExOk Tryd.prog AA kt 196 atoiG := .mk' (f := 85) rfl (by kernel_rfl) (atoi_ok (f := 85) atoiC rfl rfl (by kernel_rfl) rfl rfl (by kernel_rfl)) (fun _ _ _ _ h _ => atoiG_low h)
theorem x256 : ExOk Tryd.prog AA kt 256 (cloneG 3 48) := .mk' (f := 124) rfl (by kernel_rfl) (clone_ext (f := 124) (fn := Tryd.f124) Tryd.func124 (zero := [.i 0, .s ⟨#[]⟩, .lst 0 true []]) (by kernel_rfl) (by decide) (by kernel_rfl) (by kernel_rfl)) (fun _ _ _ _ h hn => cloneG_low h hn)
theorem x324 : ExOk Tryd.prog AA kt 324 joinG := .mk' (f := 123) rfl (by kernel_rfl) (join_ok (f := 123) ⟨fun a c sep w => Tryd.strings_Join_none a c sep w, fun bk o c xs sep w h1 h2 h3 h4 h5 => Tryd.strings_Join bk o c xs sep w h1 h2 h3 h4 h5⟩) (fun _ _ _ _ h _ => joinG_low h)
theorem xo : AllEx Tryd.prog AA kt xsA := .cons x193 (.cons x196 (.cons x256 (.cons x324 (.nil))))
theorem ok : Ok Tryd.prog AA kt := prog_ok fo xo glA_pure
theorem own : ownKnob Tryd.prog.godebug = none := by kernel_rfl
theorem lo : laidOutB Tryd.prog = true := by kernel_rfl
theorem pl : plainSet Tryd.prog [3, 4, 9, 22, 24, 25, 60] = true := by kernel_rfl
abbrev laid0 : List (String × DataW Unit) := Rows.cookieForgedRow.laid
theorem laid0_plain : (laid0.all fun x => x.2.handleName?.isNone) = true := by kernel_rfl
theorem glob_ok {W : World} (h : laidMetH Tryd.prog laid0 W) : Glob AA (G0 kt W) W
  | 0, v, hg, m, hm => by
        have hm : some 0 = some m := hm
        cases hm; cases hg
        exact glob_flat (laid_flat (g := 0) (L := [3, 4, 9, 107, 108]) (vs := kindsW) (t := 108) h laid0_plain (.tail _ (.tail _ (.tail _ (.tail _ (.tail _ (.head _)))))) (by kernel_rfl) (by kernel_rfl) (by kernel_rfl) (by kernel_rfl) (by kernel_rfl)) (n := "sluiceway/term.kinds") (by kernel_rfl) (by kernel_rfl)
  | 1, v, hg, m, hm => by
        have hm : some 2 = some m := hm
        cases hm; cases hg
        exact glob_err (laid_iface (g := 2) (t := 82) h laid0_plain (.tail _ (.tail _ (.tail _ (.head _)))) (by kernel_rfl) (by kernel_rfl) (by kernel_rfl)) (n := "strconv.ErrRange") (by kernel_rfl)
  | 2, v, hg, m, hm => by
        have hm : some 1 = some m := hm
        cases hm; cases hg
        exact glob_err (laid_iface (g := 1) (t := 82) h laid0_plain (.tail _ (.tail _ (.tail _ (.tail _ (.head _))))) (by kernel_rfl) (by kernel_rfl) (by kernel_rfl)) (n := "strconv.ErrSyntax") (by kernel_rfl)
  | 3, v, hg, m, hm => by
        have hm : some 3 = some m := hm
        cases hm; cases hg
        exact glob_flat (laid_flat (g := 3) (L := [140, 155]) (vs := pow10V) (t := 155) h laid0_plain (.tail _ (.tail _ (.head _))) (by kernel_rfl) (by kernel_rfl) (by kernel_rfl) (by kernel_rfl) (by kernel_rfl)) (n := "internal/strconv.uint64pow10") (by kernel_rfl) (by kernel_rfl)
  | _ + 4, v, hg, m, hm => by cases hg
theorem hT : ∃ fs, TermTy Tryd.prog 24 3 9 22 fs := ⟨_, Tryd.underlying24, rfl, Tryd.underlying3, Tryd.underlying9, Tryd.underlying22, by kernel_rfl, by kernel_rfl⟩
theorem isBulkU {H : Type} : IsBulk (H := H) Rows.uptoBulk Rows.uptoBulkAll where
  str _ := by simp only [Rows.uptoBulk]
  int _ _ := by simp only [Rows.uptoBulk]
  bool _ := by simp only [Rows.uptoBulk]
  nil := by simp only [Rows.uptoBulk]
  agg _ := by simp only [Rows.uptoBulk]
  slice _ _ := by simp only [Rows.uptoBulk]
  nilA := by simp only [Rows.uptoBulkAll]
  consA _ _ := by simp only [Rows.uptoBulkAll]
theorem hC : ∃ fs, CkTy Tryd.prog 60 3 9 25 24 fs := ⟨_, Tryd.underlying60, rfl, Tryd.underlying25, by kernel_rfl⟩
theorem door_met (os : Os) (args : Array Value) : laidMetH Tryd.prog laid0 ((World.doorLaid Tryd.prog 80 os).forCall (fun _ _ => 0) ⟨#[], args, []⟩).memory :=
      laidMetH_of_parts3 (fuel := 8) (laidMet_of_run' 8 (by kernel_rfl) (by kernel_rfl)) (by kernel_rfl) (by kernel_rfl)
theorem sm_of {c : Ck} (h : c.client.size ≤ 1048576 ∧ c.nonce.size ≤ 1048576 ∧ doneB c.done ≤ 5 * 1048576 ∧ c.secret.bulk ≤ 1048576 ∧ inI c.upto) : c.sm := ⟨by omega, by omega, by omega, by omega, h.2.2.2.2⟩
end Go.Proofs.YtgpcbcbmhlgekaaDoor
