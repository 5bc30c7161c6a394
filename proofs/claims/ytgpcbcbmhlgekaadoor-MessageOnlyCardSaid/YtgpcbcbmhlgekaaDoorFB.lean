/- The Message laws hold: what one side packs and asks is what the other side reads, whatever the input. -/
import Derived.Test.YtgpcbcbmhlgekaaDoorSp
import Derived.Test.YtgpcbcbmhlgekaaDoorLw
import Derived.Test.YtgpcbcbmhlgekaaDoorSh
import Derived.Test.YtgpcbcbmhlgekaaDoorPr
import Derived.Test.YtgpcbcbmhlgekaaDoorE4
import Derived.Test.YtgpcbcbmhlgekaaDoorCards
import Derived.Test.YtgpcbcbmhlgekaaDoorTie
import Derived.Deep.DeepWitnessRowRef
import Derived.LaidMore
import Derived.OpenShut
import Derived.ProofKit
import Derived.KernelRfl
set_option linter.unusedVariables false
set_option linter.unusedSimpArgs false
set_option linter.unusedSectionVars false
namespace Go.Proofs.YtgpcbcbmhlgekaaDoor
open Go Abs Go.RowKit

def kt : Nat → Option Nat := fun k => List.lookup k [(12, 3), (13, 4), (15, 5), (16, 6), (59, 16), (60, 17), (61, 18), (62, 19), (63, 20), (64, 21), (65, 22), (66, 23), (67, 24), (68, 25), (69, 26), (70, 27), (71, 28), (72, 29), (73, 30), (74, 31), (75, 32), (76, 33), (77, 34), (78, 35), (79, 36), (80, 37), (81, 38), (82, 39), (83, 40), (84, 41), (85, 42), (86, 43), (87, 44), (88, 45), (89, 46), (90, 47), (91, 48), (92, 49), (93, 50), (94, 51), (95, 52), (96, 53), (97, 54), (126, 72), (130, 76), (139, 82), (142, 77), (161, 80), (191, 78), (192, 79), (194, 83), (195, 84), (228, 103), (249, 109), (304, 107), (306, 110), (398, 132), (193, 81), (196, 85), (256, 124), (10001, 2), (10002, 1), (10003, 3)]
theorem o12 : FnOk Tryd.prog kt mdA (fun k => (List.lookup k xsA).isSome) 12 f12 := .mk' (f := 3) (fn := Tryd.f3) rfl (by kernel_rfl) Tryd.func3 (by kernel_rfl)
theorem o13 : FnOk Tryd.prog kt mdA (fun k => (List.lookup k xsA).isSome) 13 f13 := .mk' (f := 4) (fn := Tryd.f4) rfl (by kernel_rfl) Tryd.func4 (by kernel_rfl)
theorem o15 : FnOk Tryd.prog kt mdA (fun k => (List.lookup k xsA).isSome) 15 f15 := .mk' (f := 5) (fn := Tryd.f5) rfl (by kernel_rfl) Tryd.func5 (by kernel_rfl)
theorem o16 : FnOk Tryd.prog kt mdA (fun k => (List.lookup k xsA).isSome) 16 f16 := .mk' (f := 6) (fn := Tryd.f6) rfl (by kernel_rfl) Tryd.func6 (by kernel_rfl)
theorem o59 : FnOk Tryd.prog kt mdA (fun k => (List.lookup k xsA).isSome) 59 f59 := .mk' (f := 16) (fn := Tryd.f16) rfl (by kernel_rfl) Tryd.func16 (by kernel_rfl)
theorem o60 : FnOk Tryd.prog kt mdA (fun k => (List.lookup k xsA).isSome) 60 f60 := .mk' (f := 17) (fn := Tryd.f17) rfl (by kernel_rfl) Tryd.func17 (by kernel_rfl)
theorem o61 : FnOk Tryd.prog kt mdA (fun k => (List.lookup k xsA).isSome) 61 f61 := .mk' (f := 18) (fn := Tryd.f18) rfl (by kernel_rfl) Tryd.func18 (by kernel_rfl)
theorem o62 : FnOk Tryd.prog kt mdA (fun k => (List.lookup k xsA).isSome) 62 f62 := .mk' (f := 19) (fn := Tryd.f19) rfl (by kernel_rfl) Tryd.func19 (by kernel_rfl)
theorem o63 : FnOk Tryd.prog kt mdA (fun k => (List.lookup k xsA).isSome) 63 f63 := .mk' (f := 20) (fn := Tryd.f20) rfl (by kernel_rfl) Tryd.func20 (by kernel_rfl)
theorem o64 : FnOk Tryd.prog kt mdA (fun k => (List.lookup k xsA).isSome) 64 f64 := .mk' (f := 21) (fn := Tryd.f21) rfl (by kernel_rfl) Tryd.func21 (by kernel_rfl)
theorem o65 : FnOk Tryd.prog kt mdA (fun k => (List.lookup k xsA).isSome) 65 f65 := .mk' (f := 22) (fn := Tryd.f22) rfl (by kernel_rfl) Tryd.func22 (by kernel_rfl)
theorem o66 : FnOk Tryd.prog kt mdA (fun k => (List.lookup k xsA).isSome) 66 f66 := .mk' (f := 23) (fn := Tryd.f23) rfl (by kernel_rfl) Tryd.func23 (by kernel_rfl)
theorem o67 : FnOk Tryd.prog kt mdA (fun k => (List.lookup k xsA).isSome) 67 f67 := .mk' (f := 24) (fn := Tryd.f24) rfl (by kernel_rfl) Tryd.func24 (by kernel_rfl)
theorem o68 : FnOk Tryd.prog kt mdA (fun k => (List.lookup k xsA).isSome) 68 f68 := .mk' (f := 25) (fn := Tryd.f25) rfl (by kernel_rfl) Tryd.func25 (by kernel_rfl)
theorem o69 : FnOk Tryd.prog kt mdA (fun k => (List.lookup k xsA).isSome) 69 f69 := .mk' (f := 26) (fn := Tryd.f26) rfl (by kernel_rfl) Tryd.func26 (by kernel_rfl)
theorem o70 : FnOk Tryd.prog kt mdA (fun k => (List.lookup k xsA).isSome) 70 f70 := .mk' (f := 27) (fn := Tryd.f27) rfl (by kernel_rfl) Tryd.func27 (by kernel_rfl)
theorem o71 : FnOk Tryd.prog kt mdA (fun k => (List.lookup k xsA).isSome) 71 f71 := .mk' (f := 28) (fn := Tryd.f28) rfl (by kernel_rfl) Tryd.func28 (by kernel_rfl)
theorem o72 : FnOk Tryd.prog kt mdA (fun k => (List.lookup k xsA).isSome) 72 f72 := .mk' (f := 29) (fn := Tryd.f29) rfl (by kernel_rfl) Tryd.func29 (by kernel_rfl)
theorem o73 : FnOk Tryd.prog kt mdA (fun k => (List.lookup k xsA).isSome) 73 f73 := .mk' (f := 30) (fn := Tryd.f30) rfl (by kernel_rfl) Tryd.func30 (by kernel_rfl)
theorem o74 : FnOk Tryd.prog kt mdA (fun k => (List.lookup k xsA).isSome) 74 f74 := .mk' (f := 31) (fn := Tryd.f31) rfl (by kernel_rfl) Tryd.func31 (by kernel_rfl)
theorem o75 : FnOk Tryd.prog kt mdA (fun k => (List.lookup k xsA).isSome) 75 f75 := .mk' (f := 32) (fn := Tryd.f32) rfl (by kernel_rfl) Tryd.func32 (by kernel_rfl)
theorem o76 : FnOk Tryd.prog kt mdA (fun k => (List.lookup k xsA).isSome) 76 f76 := .mk' (f := 33) (fn := Tryd.f33) rfl (by kernel_rfl) Tryd.func33 (by kernel_rfl)
theorem o77 : FnOk Tryd.prog kt mdA (fun k => (List.lookup k xsA).isSome) 77 f77 := .mk' (f := 34) (fn := Tryd.f34) rfl (by kernel_rfl) Tryd.func34 (by kernel_rfl)
theorem o78 : FnOk Tryd.prog kt mdA (fun k => (List.lookup k xsA).isSome) 78 f78 := .mk' (f := 35) (fn := Tryd.f35) rfl (by kernel_rfl) Tryd.func35 (by kernel_rfl)
theorem o79 : FnOk Tryd.prog kt mdA (fun k => (List.lookup k xsA).isSome) 79 f79 := .mk' (f := 36) (fn := Tryd.f36) rfl (by kernel_rfl) Tryd.func36 (by kernel_rfl)
theorem o80 : FnOk Tryd.prog kt mdA (fun k => (List.lookup k xsA).isSome) 80 f80 := .mk' (f := 37) (fn := Tryd.f37) rfl (by kernel_rfl) Tryd.func37 (by kernel_rfl)
theorem o81 : FnOk Tryd.prog kt mdA (fun k => (List.lookup k xsA).isSome) 81 f81 := .mk' (f := 38) (fn := Tryd.f38) rfl (by kernel_rfl) Tryd.func38 (by kernel_rfl)
theorem o82 : FnOk Tryd.prog kt mdA (fun k => (List.lookup k xsA).isSome) 82 f82 := .mk' (f := 39) (fn := Tryd.f39) rfl (by kernel_rfl) Tryd.func39 (by kernel_rfl)
theorem o83 : FnOk Tryd.prog kt mdA (fun k => (List.lookup k xsA).isSome) 83 f83 := .mk' (f := 40) (fn := Tryd.f40) rfl (by kernel_rfl) Tryd.func40 (by kernel_rfl)
theorem o84 : FnOk Tryd.prog kt mdA (fun k => (List.lookup k xsA).isSome) 84 f84 := .mk' (f := 41) (fn := Tryd.f41) rfl (by kernel_rfl) Tryd.func41 (by kernel_rfl)
theorem o85 : FnOk Tryd.prog kt mdA (fun k => (List.lookup k xsA).isSome) 85 f85 := .mk' (f := 42) (fn := Tryd.f42) rfl (by kernel_rfl) Tryd.func42 (by kernel_rfl)
theorem o86 : FnOk Tryd.prog kt mdA (fun k => (List.lookup k xsA).isSome) 86 f86 := .mk' (f := 43) (fn := Tryd.f43) rfl (by kernel_rfl) Tryd.func43 (by kernel_rfl)
theorem o87 : FnOk Tryd.prog kt mdA (fun k => (List.lookup k xsA).isSome) 87 f87 := .mk' (f := 44) (fn := Tryd.f44) rfl (by kernel_rfl) Tryd.func44 (by kernel_rfl)
theorem o88 : FnOk Tryd.prog kt mdA (fun k => (List.lookup k xsA).isSome) 88 f88 := .mk' (f := 45) (fn := Tryd.f45) rfl (by kernel_rfl) Tryd.func45 (by kernel_rfl)
theorem o89 : FnOk Tryd.prog kt mdA (fun k => (List.lookup k xsA).isSome) 89 f89 := .mk' (f := 46) (fn := Tryd.f46) rfl (by kernel_rfl) Tryd.func46 (by kernel_rfl)
theorem o90 : FnOk Tryd.prog kt mdA (fun k => (List.lookup k xsA).isSome) 90 f90 := .mk' (f := 47) (fn := Tryd.f47) rfl (by kernel_rfl) Tryd.func47 (by kernel_rfl)
theorem o91 : FnOk Tryd.prog kt mdA (fun k => (List.lookup k xsA).isSome) 91 f91 := .mk' (f := 48) (fn := Tryd.f48) rfl (by kernel_rfl) Tryd.func48 (by kernel_rfl)
theorem o92 : FnOk Tryd.prog kt mdA (fun k => (List.lookup k xsA).isSome) 92 f92 := .mk' (f := 49) (fn := Tryd.f49) rfl (by kernel_rfl) Tryd.func49 (by kernel_rfl)
theorem o93 : FnOk Tryd.prog kt mdA (fun k => (List.lookup k xsA).isSome) 93 f93 := .mk' (f := 50) (fn := Tryd.f50) rfl (by kernel_rfl) Tryd.func50 (by kernel_rfl)
theorem o94 : FnOk Tryd.prog kt mdA (fun k => (List.lookup k xsA).isSome) 94 f94 := .mk' (f := 51) (fn := Tryd.f51) rfl (by kernel_rfl) Tryd.func51 (by kernel_rfl)
theorem o95 : FnOk Tryd.prog kt mdA (fun k => (List.lookup k xsA).isSome) 95 f95 := .mk' (f := 52) (fn := Tryd.f52) rfl (by kernel_rfl) Tryd.func52 (by kernel_rfl)
theorem o96 : FnOk Tryd.prog kt mdA (fun k => (List.lookup k xsA).isSome) 96 f96 := .mk' (f := 53) (fn := Tryd.f53) rfl (by kernel_rfl) Tryd.func53 (by kernel_rfl)
theorem o97 : FnOk Tryd.prog kt mdA (fun k => (List.lookup k xsA).isSome) 97 f97 := .mk' (f := 54) (fn := Tryd.f54) rfl (by kernel_rfl) Tryd.func54 (by kernel_rfl)
theorem o126 : FnOk Tryd.prog kt mdA (fun k => (List.lookup k xsA).isSome) 126 f126 := .mk' (f := 72) (fn := Tryd.f72) rfl (by kernel_rfl) Tryd.func72 (by kernel_rfl)
theorem o130 : FnOk Tryd.prog kt mdA (fun k => (List.lookup k xsA).isSome) 130 f130 := .mk' (f := 76) (fn := Tryd.f76) rfl (by kernel_rfl) Tryd.func76 (by kernel_rfl)
theorem o139 : FnOk Tryd.prog kt mdA (fun k => (List.lookup k xsA).isSome) 139 f139 := .mk' (f := 82) (fn := Tryd.f82) rfl (by kernel_rfl) Tryd.func82 (by kernel_rfl)
theorem o142 : FnOk Tryd.prog kt mdA (fun k => (List.lookup k xsA).isSome) 142 f142 := .mk' (f := 77) (fn := Tryd.f77) rfl (by kernel_rfl) Tryd.func77 (by kernel_rfl)
theorem o161 : FnOk Tryd.prog kt mdA (fun k => (List.lookup k xsA).isSome) 161 f161 := .mk' (f := 80) (fn := Tryd.f80) rfl (by kernel_rfl) Tryd.func80 (by kernel_rfl)
theorem o191 : FnOk Tryd.prog kt mdA (fun k => (List.lookup k xsA).isSome) 191 f191 := .mk' (f := 78) (fn := Tryd.f78) rfl (by kernel_rfl) Tryd.func78 (by kernel_rfl)
theorem o192 : FnOk Tryd.prog kt mdA (fun k => (List.lookup k xsA).isSome) 192 f192 := .mk' (f := 79) (fn := Tryd.f79) rfl (by kernel_rfl) Tryd.func79 (by kernel_rfl)
theorem o194 : FnOk Tryd.prog kt mdA (fun k => (List.lookup k xsA).isSome) 194 f194 := .mk' (f := 83) (fn := Tryd.f83) rfl (by kernel_rfl) Tryd.func83 (by kernel_rfl)
theorem o195 : FnOk Tryd.prog kt mdA (fun k => (List.lookup k xsA).isSome) 195 f195 := .mk' (f := 84) (fn := Tryd.f84) rfl (by kernel_rfl) Tryd.func84 (by kernel_rfl)
theorem o228 : FnOk Tryd.prog kt mdA (fun k => (List.lookup k xsA).isSome) 228 f228 := .mk' (f := 103) (fn := Tryd.f103) rfl (by kernel_rfl) Tryd.func103 (by kernel_rfl)
theorem o249 : FnOk Tryd.prog kt mdA (fun k => (List.lookup k xsA).isSome) 249 f249 := .mk' (f := 109) (fn := Tryd.f109) rfl (by kernel_rfl) Tryd.func109 (by kernel_rfl)
theorem o304 : FnOk Tryd.prog kt mdA (fun k => (List.lookup k xsA).isSome) 304 f304 := .mk' (f := 107) (fn := Tryd.f107) rfl (by kernel_rfl) Tryd.func107 (by kernel_rfl)
theorem o306 : FnOk Tryd.prog kt mdA (fun k => (List.lookup k xsA).isSome) 306 f306 := .mk' (f := 110) (fn := Tryd.f110) rfl (by kernel_rfl) Tryd.func110 (by kernel_rfl)
theorem o398 : FnOk Tryd.prog kt mdA (fun k => (List.lookup k xsA).isSome) 398 f398 := .mk' (f := 132) (fn := Tryd.f132) rfl (by kernel_rfl) Tryd.func132 (by kernel_rfl)
theorem fo : AllFn Tryd.prog kt mdA (fun k => (List.lookup k xsA).isSome) fsA := .cons o12 (.cons o13 (.cons o15 (.cons o16 (.cons o59 (.cons o60 (.cons o61 (.cons o62 (.cons o63 (.cons o64 (.cons o65 (.cons o66 (.cons o67 (.cons o68 (.cons o69 (.cons o70 (.cons o71 (.cons o72 (.cons o73 (.cons o74 (.cons o75 (.cons o76 (.cons o77 (.cons o78 (.cons o79 (.cons o80 (.cons o81 (.cons o82 (.cons o83 (.cons o84 (.cons o85 (.cons o86 (.cons o87 (.cons o88 (.cons o89 (.cons o90 (.cons o91 (.cons o92 (.cons o93 (.cons o94 (.cons o95 (.cons o96 (.cons o97 (.cons o126 (.cons o130 (.cons o139 (.cons o142 (.cons o161 (.cons o191 (.cons o192 (.cons o194 (.cons o195 (.cons o228 (.cons o249 (.cons o304 (.cons o306 (.cons o398 (.nil)))))))))))))))))))))))))))))))))))))))))))))))))))))))))
theorem x193 : ExOk Tryd.prog AA kt 193 itoaG := .mk' (f := 81) rfl (by kernel_rfl) (itoa_ok (f := 81) ⟨fun n h0 h1 w h => Tryd.strconv_Itoa n h0 h1 w h⟩ rfl rfl (by kernel_rfl)) (fun _ _ _ _ h _ => itoaG_low h)
theorem atoiC : AtoiC Tryd.prog 85 where
      ok s hs v h w := (Tryd.strconv_Atoi_ok s hs v h w).mono fun e w' ⟨h1, h2⟩ => ⟨h1, below_bytes h2⟩
      syn s hs h tp p w hv := (Tryd.strconv_Atoi_syntax_var s hs h tp p w hv).mono fun e w' ⟨N, h1, _, _, h2⟩ => ⟨_, _, h1, h2⟩
      rng s hs h tp p w hv := (Tryd.strconv_Atoi_range_var s hs h tp p w hv).mono fun e w' ⟨N, h1, _, _, h2⟩ => ⟨_, _, h1, h2⟩
theorem x196 : ExOk Tryd.prog AA kt 196 atoiG := .mk' (f := 85) rfl (by kernel_rfl) (atoi_ok (f := 85) atoiC rfl rfl (by kernel_rfl) rfl rfl (by kernel_rfl)) (fun _ _ _ _ h _ => atoiG_low h)
theorem x256 : ExOk Tryd.prog AA kt 256 (cloneG 3 48) := .mk' (f := 124) rfl (by kernel_rfl) (clone_ext (f := 124) (fn := Tryd.f124) Tryd.func124 (zero := [.i 0, .s ⟨#[]⟩, .lst 0 true []]) (by kernel_rfl) (by decide) (by kernel_rfl) (by kernel_rfl)) (fun _ _ _ _ h hn => cloneG_low h hn)
theorem xo : AllEx Tryd.prog AA kt xsA := .cons x193 (.cons x196 (.cons x256 (.nil)))
theorem ok : Ok Tryd.prog AA kt := prog_ok fo xo
theorem own : ownKnob Tryd.prog.godebug = none := by kernel_rfl
theorem lo : laidOutB Tryd.prog = true := by kernel_rfl
theorem pl : plainSet Tryd.prog [3, 4, 9, 22, 24, 25] = true := by kernel_rfl
abbrev laid0 : List (String × DataW Unit) := Rows.messageMakesRow.laid
theorem laid0_plain : (laid0.all fun x => x.2.handleName?.isNone) = true := by kernel_rfl
theorem glob_ok {W : World} (h : laidMetH Tryd.prog laid0 W) : Glob AA (G0 kt W) W
  | 0, v, hg, m, hm => by have hm : (none : Option Nat) = some m := hm; cases hm
  | 1, v, hg, m, hm => by
        have hm : some 2 = some m := hm
        cases hm; cases hg
        exact glob_err (laid_iface (g := 2) (t := 82) h laid0_plain (.tail _ (.tail _ (.tail _ (.head _)))) (by kernel_rfl) (by kernel_rfl) (by kernel_rfl)) (n := "strconv.ErrRange") (by kernel_rfl)
  | 2, v, hg, m, hm => by
        have hm : some 1 = some m := hm
        cases hm; cases hg
        exact glob_err (laid_iface (g := 1) (t := 82) h laid0_plain (.tail _ (.tail _ (.tail _ (.tail _ (.head _))))) (by kernel_rfl) (by kernel_rfl) (by kernel_rfl)) (n := "strconv.ErrSyntax") (by kernel_rfl)
  | 3, v, hg, m, hm => by
        have hm : some 3 = some m := hm
        cases hm; cases hg
        exact glob_flat (laid_flat (g := 3) (L := [140, 155]) (vs := pow10V) (t := 155) h laid0_plain (.tail _ (.tail _ (.head _))) (by kernel_rfl) (by kernel_rfl) (by kernel_rfl) (by kernel_rfl) (by kernel_rfl)) (n := "internal/strconv.uint64pow10") (by kernel_rfl) (by kernel_rfl)
  | _ + 4, v, hg, m, hm => by cases hg
theorem hT : ∃ fs, TermTy Tryd.prog 24 3 9 22 fs := ⟨_, Tryd.underlying24, rfl, Tryd.underlying3, Tryd.underlying9, Tryd.underlying22, by kernel_rfl, by kernel_rfl⟩
theorem door_met (os : Os) (args : Array Value) : laidMetH Tryd.prog laid0 ((World.doorLaid Tryd.prog 80 os).forCall (fun _ _ => 0) ⟨#[], args, []⟩).memory :=
      laidMetH_of_parts3 (fuel := 8) (laidMet_of_run' 8 (by kernel_rfl) (by kernel_rfl)) (by kernel_rfl) (by kernel_rfl)
theorem good_of {t : T} (h : t.bd reachBytes) : t.good := by
  obtain ⟨k, n, l⟩ := t
  refine ⟨T.fits_bd (by decide) h, ?_, ?_, fun u hu => ?_⟩
  · have := h.2.1; have e : reachBytes = 140737488351232 := rfl; show l.length * 48 ≤ _; omega
  · have := h.1; have e : reachBytes = 140737488351232 := rfl; show n.size ≤ _; omega
  · obtain ⟨k', n', l'⟩ := u
    have := (bdL_iff.1 h.2.2 _ hu).1
    have e : reachBytes = 140737488351232 := rfl
    show n'.size ≤ _; omega
theorem rb : reachBytes = 140737488351232 := rfl
end Go.Proofs.YtgpcbcbmhlgekaaDoor
