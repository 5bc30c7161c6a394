/- The first four Replay laws hold: what came once is not taken again, who is full takes nothing new, ids have nothing to do with one another, who comes again for longer is kept for longer: for every input. -/
import Derived.Test.YtebibndnphkmeaaSp
import Derived.Test.YtebibndnphkmeaaE4
import Derived.Test.YtebibndnphkmeaaE3
import Derived.Test.YtebibndnphkmeaaRows
import Derived.ProofKit
import Derived.KernelRfl
set_option linter.unusedVariables false
set_option linter.unusedSimpArgs false
set_option linter.unusedSectionVars false
namespace Go.Proofs.Ytebibndnphkmeaa
open Go Abs Go.RowKit

def kt : Nat → Option Nat := fun k => List.lookup k [(3, 3), (4, 4), (5, 5), (6, 6), (49, 12), (50, 13), (51, 14), (52, 15), (53, 16)]
def fs : List (Nat × AFunc) := [(3, f3), (4, f4), (5, f5), (6, f6), (49, f49), (50, f50), (51, f51), (52, f52)]
def xs : List (Nat × (List AV → AS → Option (AV × AS))) := [(53, pruneG)]
def md : Nat → Abs.Mode := fun _ => .keep
def xb : Nat → Bool := fun k => (List.lookup k xs).isSome
def gl : Nat → Option AV := fun _ => none
def pg : AProg := progOf fs xs md gl
theorem o3 : FnOk Try.prog kt md xb 3 f3 := .mk' (f := 3) (fn := Try.f3) rfl (by kernel_rfl) Try.func3 (by kernel_rfl)
theorem o4 : FnOk Try.prog kt md xb 4 f4 := .mk' (f := 4) (fn := Try.f4) rfl (by kernel_rfl) Try.func4 (by kernel_rfl)
theorem o5 : FnOk Try.prog kt md xb 5 f5 := .mk' (f := 5) (fn := Try.f5) rfl (by kernel_rfl) Try.func5 (by kernel_rfl)
theorem o6 : FnOk Try.prog kt md xb 6 f6 := .mk' (f := 6) (fn := Try.f6) rfl (by kernel_rfl) Try.func6 (by kernel_rfl)
theorem o49 : FnOk Try.prog kt md xb 49 f49 := .mk' (f := 12) (fn := Try.f12) rfl (by kernel_rfl) Try.func12 (by kernel_rfl)
theorem o50 : FnOk Try.prog kt md xb 50 f50 := .mk' (f := 13) (fn := Try.f13) rfl (by kernel_rfl) Try.func13 (by kernel_rfl)
theorem o51 : FnOk Try.prog kt md xb 51 f51 := .mk' (f := 14) (fn := Try.f14) rfl (by kernel_rfl) Try.func14 (by kernel_rfl)
theorem o52 : FnOk Try.prog kt md xb 52 f52 := .mk' (f := 15) (fn := Try.f15) rfl (by kernel_rfl) Try.func15 (by kernel_rfl)
theorem fo : AllFn Try.prog kt md xb fs := .cons o3 (.cons o4 (.cons o5 (.cons o6 (.cons o49 (.cons o50 (.cons o51 (.cons o52 (.nil))))))))
theorem x53 : ExOk Try.prog pg kt 53 pruneG := .mk' (f := 16) rfl (by kernel_rfl) (prune_ext (fn := Try.f16) Try.func16 (by kernel_rfl) (by kernel_rfl)) (fun _ _ _ _ h _ => pruneG_low h)
theorem xo : AllEx Try.prog pg kt xs := .cons x53 (.nil)
theorem ok : Ok Try.prog pg kt := prog_ok fo xo
theorem own : ownKnob Try.prog.godebug = none := by kernel_rfl
theorem lo : laidOutB Try.prog = true := by kernel_rfl
theorem pl : plainSet Try.prog [9, 3, 4, 22, 29] = true := by kernel_rfl
theorem hasR : HasR pg where
  n50 := ⟨rfl, rfl, rfl⟩
  n51 := ⟨rfl, rfl, rfl⟩
  n52 := ⟨rfl, rfl, rfl⟩
  n53 := rfl
theorem hasR0 : HasR0 pg := { hasR with n49 := ⟨rfl, rfl, rfl⟩ }
theorem c29 : Try.prog.cellsOf 29 = 4 := by kernel_rfl
theorem stepsOf : ∀ {xs : List (List AV)}, TypedR Try.prog 29 xs → ∃ L : List Stp, xs = L.map Stp.row
  | [], _ => ⟨[], rfl⟩
  | r :: rs, h => by
    cases h with
    | cons h ht =>
      obtain ⟨L, rfl⟩ := stepsOf ht
      have h := typed_struct Try.underlying29 h
      obtain ⟨a, _, rfl, h1, h⟩ := typedF_cons h
      obtain ⟨b, _, rfl, h2, h⟩ := typedF_cons h
      obtain ⟨c, _, rfl, h3, h⟩ := typedF_cons h
      obtain ⟨d, _, rfl, h4, h⟩ := typedF_cons h
      obtain rfl := typedF_nil h
      obtain ⟨x1, rfl, _⟩ := typed_str Try.underlying9 h1
      obtain ⟨x2, rfl, _⟩ := typed_int Try.underlying3 h2
      obtain ⟨x3, rfl, _⟩ := typed_int Try.underlying3 h3
      obtain ⟨x4, rfl⟩ := typed_bool Try.underlying4 h4
      exact ⟨⟨x1, x2, x3, x4⟩ :: L, rfl⟩
theorem targ_steps {ts : List TypeId} {l : List AV} (h : TypedArgs Try.prog (22 :: ts) l) : ∃ L r, l = stpA L :: r ∧ L.length ≤ maxLen ∧ TypedArgs Try.prog ts r := by
  obtain ⟨xs, r, rfl, hl, hx, h2⟩ := targ_slice Try.underlying22 h
  obtain ⟨L, rfl⟩ := stepsOf hx
  exact ⟨L, r, by rw [c29]; rfl, by simpa using hl, h2⟩


theorem run_replayOnce : ∀ avs, TypedArgs Try.prog Try.f3.params.toList avs → Tru (docall pg (run pg) 3 avs S0) := by
  intro avs h
  rw [Try.params3] at h
  obtain ⟨x0, _, rfl, hx0, h⟩ := targ_steps h
  obtain rfl := targs_nil h
  exact once_law { hasR0 with n3 := ⟨rfl, rfl, rfl⟩ } (Nat.le_refl _) x0 hx0
set_option maxRecDepth 100000 in
theorem replayOnce_lifted (os : Os) (started : os.Started) (H : Type) (enc : TypeId × Value → H) :
    ReturnsInHanded {} Try.checked os 3 .any (Rows.replayOnceSpec.pre6 enc Try.prog Try.f3 Rows.replayOnceRow.domain false) (Rows.replayOnceSpec.post enc Try.prog Try.f3 false true false false) := by
  refine returnsInHanded_of_change (C := Try.checked) own started (by kernel_rfl) Try.func3
    (ChangeSpec.witness6 (enc := enc) (C := Try.checked) false ⟨#[], #[.slice none 0 0], []⟩ 8 (by kernel_rfl) (by kernel_rfl) (by kernel_rfl) (by kernel_rfl)) ?_
  intro W base args ds gs before hval hW _ _
  refine law_contract (P := Try.prog) (fn := Try.f3) (key := 3) (L := [9, 3, 4, 22, 29]) ok rfl (fun W g v h => by cases h) lo pl (by rw [Try.params3]; intro t ht; revert t; decide +kernel) rfl (by kernel_rfl) rfl ?_ ?_ hval hW
  · intro ds hl
    have hl : ds.length = 1 := hl
    match ds, hl with | [d0], _ => exact ⟨rfl, rfl, rfl⟩
  · exact run_replayOnce

theorem replayOnce_holds : Rows.ReplayOnceSaid :=
  OpenClaim.holds_of_wide 3 Try.f3 rfl rfl rfl rfl rfl rfl rfl ⟨rfl, rfl, rfl, rfl, rfl⟩ rfl rfl rfl rfl rfl (by kernel_rfl) Try.func3 (by kernel_rfl)
    (of_decide_eq_true (by kernel_rfl)) (by unfold Func.isWrapper; first | (rw [if_pos (by decide +kernel)]; kernel_rfl) | (rw [if_neg (by decide +kernel)]; exact ⟨rfl, rfl⟩))
    (fun os started H enc _ => replayOnce_lifted os started H enc)
#print axioms replayOnce_holds

theorem run_replayFull : ∀ avs, TypedArgs Try.prog Try.f4.params.toList avs → Tru (docall pg (run pg) 4 avs S0) := by
  intro avs h
  rw [Try.params4] at h
  obtain ⟨x0, _, rfl, hx0, h⟩ := targ_int Try.underlying3 h
  obtain ⟨x1, _, rfl, hx1, h⟩ := targ_int Try.underlying3 h
  obtain rfl := targs_nil h
  exact full_law { hasR0 with n4 := ⟨rfl, rfl, rfl⟩ } (Nat.le_refl _) x0 x1
set_option maxRecDepth 100000 in
theorem replayFull_lifted (os : Os) (started : os.Started) (H : Type) (enc : TypeId × Value → H) :
    ReturnsInHanded {} Try.checked os 4 .any (Rows.replayFullSpec.pre6 enc Try.prog Try.f4 Rows.replayFullRow.domain false) (Rows.replayFullSpec.post enc Try.prog Try.f4 false true false false) := by
  refine returnsInHanded_of_change (C := Try.checked) own started (by kernel_rfl) Try.func4
    (ChangeSpec.witness6 (enc := enc) (C := Try.checked) false ⟨#[], #[.int .i64 0, .int .i64 0], []⟩ 8 (by kernel_rfl) (by kernel_rfl) (by kernel_rfl) (by kernel_rfl)) ?_
  intro W base args ds gs before hval hW _ _
  refine law_contract (P := Try.prog) (fn := Try.f4) (key := 4) (L := [9, 3, 4, 22, 29]) ok rfl (fun W g v h => by cases h) lo pl (by rw [Try.params4]; intro t ht; revert t; decide +kernel) rfl (by kernel_rfl) rfl ?_ ?_ hval hW
  · intro ds hl
    have hl : ds.length = 2 := hl
    match ds, hl with | [d0, d1], _ => exact ⟨rfl, rfl, rfl⟩
  · exact run_replayFull

theorem replayFull_holds : Rows.ReplayFullSaid :=
  OpenClaim.holds_of_wide 4 Try.f4 rfl rfl rfl rfl rfl rfl rfl ⟨rfl, rfl, rfl, rfl, rfl⟩ rfl rfl rfl rfl rfl (by kernel_rfl) Try.func4 (by kernel_rfl)
    (of_decide_eq_true (by kernel_rfl)) (by unfold Func.isWrapper; first | (rw [if_pos (by decide +kernel)]; kernel_rfl) | (rw [if_neg (by decide +kernel)]; exact ⟨rfl, rfl⟩))
    (fun os started H enc _ => replayFull_lifted os started H enc)
#print axioms replayFull_holds

theorem run_replayApart : ∀ avs, TypedArgs Try.prog Try.f5.params.toList avs → Tru (docall pg (run pg) 5 avs S0) := by
  intro avs h
  rw [Try.params5] at h
  obtain ⟨x0, _, rfl, hx0, h⟩ := targ_steps h
  obtain ⟨x1, _, rfl, hx1, h⟩ := targ_str Try.underlying9 h
  obtain rfl := targs_nil h
  exact apart_law { hasR0 with n5 := ⟨rfl, rfl, rfl⟩ } (Nat.le_refl _) x0 hx0 x1
set_option maxRecDepth 100000 in
theorem replayApart_lifted (os : Os) (started : os.Started) (H : Type) (enc : TypeId × Value → H) :
    ReturnsInHanded {} Try.checked os 5 .any (Rows.replayApartSpec.pre6 enc Try.prog Try.f5 Rows.replayApartRow.domain false) (Rows.replayApartSpec.post enc Try.prog Try.f5 false true false false) := by
  refine returnsInHanded_of_change (C := Try.checked) own started (by kernel_rfl) Try.func5
    (ChangeSpec.witness6 (enc := enc) (C := Try.checked) false ⟨#[], #[.slice none 0 0, .string ⟨#[]⟩], []⟩ 8 (by kernel_rfl) (by kernel_rfl) (by kernel_rfl) (by kernel_rfl)) ?_
  intro W base args ds gs before hval hW _ _
  refine law_contract (P := Try.prog) (fn := Try.f5) (key := 5) (L := [9, 3, 4, 22, 29]) ok rfl (fun W g v h => by cases h) lo pl (by rw [Try.params5]; intro t ht; revert t; decide +kernel) rfl (by kernel_rfl) rfl ?_ ?_ hval hW
  · intro ds hl
    have hl : ds.length = 2 := hl
    match ds, hl with | [d0, d1], _ => exact ⟨rfl, rfl, rfl⟩
  · exact run_replayApart

theorem replayApart_holds : Rows.ReplayApartSaid :=
  OpenClaim.holds_of_wide 5 Try.f5 rfl rfl rfl rfl rfl rfl rfl ⟨rfl, rfl, rfl, rfl, rfl⟩ rfl rfl rfl rfl rfl (by kernel_rfl) Try.func5 (by kernel_rfl)
    (of_decide_eq_true (by kernel_rfl)) (by unfold Func.isWrapper; first | (rw [if_pos (by decide +kernel)]; kernel_rfl) | (rw [if_neg (by decide +kernel)]; exact ⟨rfl, rfl⟩))
    (fun os started H enc _ => replayApart_lifted os started H enc)
#print axioms replayApart_holds

theorem run_replayLonger : ∀ avs, TypedArgs Try.prog Try.f6.params.toList avs → Tru (docall pg (run pg) 6 avs S0) := by
  intro avs h
  rw [Try.params6] at h
  obtain ⟨x0, _, rfl, hx0, h⟩ := targ_str Try.underlying9 h
  obtain ⟨x1, _, rfl, hx1, h⟩ := targ_int Try.underlying3 h
  obtain ⟨x2, _, rfl, hx2, h⟩ := targ_int Try.underlying3 h
  obtain ⟨x3, _, rfl, hx3, h⟩ := targ_int Try.underlying3 h
  obtain rfl := targs_nil h
  exact longer_law { hasR0 with n6 := ⟨rfl, rfl, rfl⟩ } (Nat.le_refl _) x0 x1 x2 x3
set_option maxRecDepth 100000 in
theorem replayLonger_lifted (os : Os) (started : os.Started) (H : Type) (enc : TypeId × Value → H) :
    ReturnsInHanded {} Try.checked os 6 .any (Rows.replayLongerSpec.pre6 enc Try.prog Try.f6 Rows.replayLongerRow.domain false) (Rows.replayLongerSpec.post enc Try.prog Try.f6 false true false false) := by
  refine returnsInHanded_of_change (C := Try.checked) own started (by kernel_rfl) Try.func6
    (ChangeSpec.witness6 (enc := enc) (C := Try.checked) false ⟨#[], #[.string ⟨#[]⟩, .int .i64 0, .int .i64 0, .int .i64 0], []⟩ 8 (by kernel_rfl) (by kernel_rfl) (by kernel_rfl) (by kernel_rfl)) ?_
  intro W base args ds gs before hval hW _ _
  refine law_contract (P := Try.prog) (fn := Try.f6) (key := 6) (L := [9, 3, 4, 22, 29]) ok rfl (fun W g v h => by cases h) lo pl (by rw [Try.params6]; intro t ht; revert t; decide +kernel) rfl (by kernel_rfl) rfl ?_ ?_ hval hW
  · intro ds hl
    have hl : ds.length = 4 := hl
    match ds, hl with | [d0, d1, d2, d3], _ => exact ⟨rfl, rfl, rfl⟩
  · exact run_replayLonger

theorem replayLonger_holds : Rows.ReplayLongerSaid :=
  OpenClaim.holds_of_wide 6 Try.f6 rfl rfl rfl rfl rfl rfl rfl ⟨rfl, rfl, rfl, rfl, rfl⟩ rfl rfl rfl rfl rfl (by kernel_rfl) Try.func6 (by kernel_rfl)
    (of_decide_eq_true (by kernel_rfl)) (by unfold Func.isWrapper; first | (rw [if_pos (by decide +kernel)]; kernel_rfl) | (rw [if_neg (by decide +kernel)]; exact ⟨rfl, rfl⟩))
    (fun os started H enc _ => replayLonger_lifted os started H enc)
#print axioms replayLonger_holds
end Go.Proofs.Ytebibndnphkmeaa
