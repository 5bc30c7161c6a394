/- ReplayLonger holds: who comes again for longer is kept for longer, for every input. -/
import Derived.Test.YtebibndnphkmeaaSp
import Derived.Test.YtebibndnphkmeaaE4
import Derived.Test.YtebibndnphkmeaaE3
import Derived.Test.YtebibndnphkmeaaRows
import Derived.ProofKit
import Derived.KernelRfl
namespace Go.Proofs.Ytebibndnphkmeaa
open Go Abs Go.RowKit

def kt : Nat → Option Nat := fun k => List.lookup k [(6, 6), (49, 12), (50, 13), (51, 14), (52, 15), (53, 16)]
def fs : List (Nat × AFunc) := [(6, f6), (49, f49), (50, f50), (51, f51), (52, f52)]
def xs : List (Nat × (List AV → AS → Option (AV × AS))) := [(53, pruneG)]
def md : Nat → Abs.Mode := fun _ => .keep
def xb : Nat → Bool := fun k => (List.lookup k xs).isSome
def gl : Nat → Option AV := fun _ => none
def pg : AProg := progOf fs xs md gl
theorem o6 : FnOk Try.prog kt md xb 6 f6 := .mk' (f := 6) (fn := Try.f6) rfl (by kernel_rfl) Try.func6 (by kernel_rfl)
theorem o49 : FnOk Try.prog kt md xb 49 f49 := .mk' (f := 12) (fn := Try.f12) rfl (by kernel_rfl) Try.func12 (by kernel_rfl)
theorem o50 : FnOk Try.prog kt md xb 50 f50 := .mk' (f := 13) (fn := Try.f13) rfl (by kernel_rfl) Try.func13 (by kernel_rfl)
theorem o51 : FnOk Try.prog kt md xb 51 f51 := .mk' (f := 14) (fn := Try.f14) rfl (by kernel_rfl) Try.func14 (by kernel_rfl)
theorem o52 : FnOk Try.prog kt md xb 52 f52 := .mk' (f := 15) (fn := Try.f15) rfl (by kernel_rfl) Try.func15 (by kernel_rfl)
theorem fo : AllFn Try.prog kt md xb fs := .cons o6 (.cons o49 (.cons o50 (.cons o51 (.cons o52 (.nil)))))
theorem x53 : ExOk Try.prog pg kt 53 pruneG := .mk' (f := 16) rfl (by kernel_rfl) (prune_ext (fn := Try.f16) Try.func16 (by kernel_rfl) (by kernel_rfl)) (fun _ _ _ _ h _ => pruneG_low h)
theorem xo : AllEx Try.prog pg kt xs := .cons x53 (.nil)
theorem ok : Ok Try.prog pg kt := prog_ok fo xo
theorem own : ownKnob Try.prog.godebug = none := by kernel_rfl
theorem lo : laidOutB Try.prog = true := by kernel_rfl
theorem pl : plainSet Try.prog [9, 3, 4, 22, 29] = true := by kernel_rfl
theorem hasR : HasR6 pg where
  n50 := ⟨rfl, rfl, rfl⟩
  n51 := ⟨rfl, rfl, rfl⟩
  n52 := ⟨rfl, rfl, rfl⟩
  n53 := rfl
  n49 := ⟨rfl, rfl, rfl⟩
  n6 := ⟨rfl, rfl, rfl⟩

theorem run_replayLonger : ∀ avs, TypedArgs Try.prog Try.f6.params.toList avs → Tru (docall pg (run pg) 6 avs S0) := by
  intro avs h
  rw [Try.params6] at h
  obtain ⟨id, _, rfl, _, h⟩ := targ_str Try.underlying9 h
  obtain ⟨a, _, rfl, _, h⟩ := targ_int Try.underlying3 h
  obtain ⟨b, _, rfl, _, h⟩ := targ_int Try.underlying3 h
  obtain ⟨c, _, rfl, _, h⟩ := targ_int Try.underlying3 h
  obtain rfl := targs_nil h
  exact longer_law hasR (Nat.le_refl _) id a b c
set_option maxRecDepth 100000 in
theorem replayLonger_lifted (os : Os) (started : os.Started) (H : Type) (enc : TypeId × Value → H) :
    ReturnsInHanded {} Try.checked os 6 .any (Rows.replayLongerSpec.pre6 enc Try.prog Try.f6 Rows.replayLongerRow.domain false) (Rows.replayLongerSpec.post enc Try.prog Try.f6 false true false false) := by
  refine returnsInHanded_of_change (C := Try.checked) own started (by kernel_rfl) Try.func6
    (ChangeSpec.witness6 (enc := enc) (C := Try.checked) false ⟨#[], #[.string ⟨#[]⟩, .int .i64 0, .int .i64 0, .int .i64 0], []⟩ 8 (by kernel_rfl) (by kernel_rfl) (by kernel_rfl) (by kernel_rfl)) ?_
  intro W base args ds gs before hval hW _ _
  refine law_contract (P := Try.prog) (fn := Try.f6) (key := 6) (L := [9, 3, 4, 22, 29]) ok rfl (fun W g v h => by cases h) lo pl (by rw [Try.params6]; intro t ht; revert t; decide +kernel) rfl (by kernel_rfl) rfl ?_ ?_ hval hW
  · intro ds hl
    have hl : ds.length = 4 := hl
    match ds, hl with | [a, b, c, d], _ => exact ⟨rfl, rfl, rfl⟩
  · exact run_replayLonger

theorem replayLonger_holds : Rows.ReplayLongerSaid :=
  OpenClaim.holds_of_wide 6 Try.f6 rfl rfl rfl rfl rfl rfl rfl ⟨rfl, rfl, rfl, rfl, rfl⟩ rfl rfl rfl rfl rfl (by kernel_rfl) Try.func6 (by kernel_rfl)
    (of_decide_eq_true (by kernel_rfl)) (by unfold Func.isWrapper; first | (rw [if_pos (by decide +kernel)]; kernel_rfl) | (rw [if_neg (by decide +kernel)]; exact ⟨rfl, rfl⟩))
    (fun os started H enc _ => replayLonger_lifted os started H enc)
#print axioms replayLonger_holds
end Go.Proofs.Ytebibndnphkmeaa
