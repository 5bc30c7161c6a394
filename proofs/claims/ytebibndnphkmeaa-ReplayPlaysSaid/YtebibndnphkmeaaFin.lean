/- ReplayPlays holds: a cache answers what the document says: for every input. -/
import Derived.Test.YtebibndnphkmeaaSp
import Derived.Test.YtebibndnphkmeaaE4
import Derived.Test.YtebibndnphkmeaaE3
import Derived.Test.YtebibndnphkmeaaSh
import Derived.Test.YtebibndnphkmeaaRows
import Derived.ProofKit
import Derived.KernelRfl
set_option linter.unusedVariables false
set_option linter.unusedSimpArgs false
set_option linter.unusedSectionVars false
namespace Go.Proofs.Ytebibndnphkmeaa
open Go Abs Go.RowKit

def kt : Nat → Option Nat := fun k => List.lookup k [(7, 7), (49, 12), (50, 13), (51, 14), (52, 15), (54, 17), (55, 18), (56, 19), (57, 20), (53, 16), (58, 21), (190, 22)]
def fs : List (Nat × AFunc) := [(7, f7), (49, f49), (50, f50), (51, f51), (52, f52), (54, f54), (55, f55), (56, f56), (57, f57)]
def xs : List (Nat × (List AV → AS → Option (AV × AS))) := [(53, pruneG), (58, allG), (190, sortG)]
def md : Nat → Abs.Mode := fun k => if k == 52 then .calm else .keep
def xb : Nat → Bool := fun k => (List.lookup k xs).isSome
def gl : Nat → Option AV := fun _ => none
def pg : AProg := progOf fs xs md gl
theorem o7 : FnOk Try.prog kt md xb 7 f7 := .mk' (f := 7) (fn := Try.f7) rfl (by kernel_rfl) Try.func7 (by kernel_rfl)
theorem o49 : FnOk Try.prog kt md xb 49 f49 := .mk' (f := 12) (fn := Try.f12) rfl (by kernel_rfl) Try.func12 (by kernel_rfl)
theorem o50 : FnOk Try.prog kt md xb 50 f50 := .mk' (f := 13) (fn := Try.f13) rfl (by kernel_rfl) Try.func13 (by kernel_rfl)
theorem o51 : FnOk Try.prog kt md xb 51 f51 := .mk' (f := 14) (fn := Try.f14) rfl (by kernel_rfl) Try.func14 (by kernel_rfl)
theorem o52 : FnOk Try.prog kt md xb 52 f52 := .mk' (f := 15) (fn := Try.f15) rfl (by kernel_rfl) Try.func15 (by kernel_rfl)
theorem o54 : FnOk Try.prog kt md xb 54 f54 := .mk' (f := 17) (fn := Try.f17) rfl (by kernel_rfl) Try.func17 (by kernel_rfl)
theorem o55 : FnOk Try.prog kt md xb 55 f55 := .mk' (f := 18) (fn := Try.f18) rfl (by kernel_rfl) Try.func18 (by kernel_rfl)
theorem o56 : FnOk Try.prog kt md xb 56 f56 := .mk' (f := 19) (fn := Try.f19) rfl (by kernel_rfl) Try.func19 (by kernel_rfl)
theorem o57 : FnOk Try.prog kt md xb 57 f57 := .mk' (f := 20) (fn := Try.f20) rfl (by kernel_rfl) Try.func20 (by kernel_rfl)
theorem fo : AllFn Try.prog kt md xb fs := .cons o7 (.cons o49 (.cons o50 (.cons o51 (.cons o52 (.cons o54 (.cons o55 (.cons o56 (.cons o57 (.nil)))))))))
theorem x53 : ExOk Try.prog pg kt 53 pruneG := .mk' (f := 16) rfl (by kernel_rfl) (prune_ext (fn := Try.f16) Try.func16 (by kernel_rfl) (by kernel_rfl)) (fun _ _ _ _ h _ => pruneG_low h)
theorem x58 : ExOk Try.prog pg kt 58 allG := .mk' (f := 21) rfl (by kernel_rfl) (all_ext (g := 22) (fn := Try.f21) rfl (by kernel_rfl) ⟨fun p c w => Try.slices_Sort_string_none p c w, fun b o c ss w h1 h2 h3 => Try.slices_Sort_string b o c ss w h1 h2 h3⟩ Try.func21 (by kernel_rfl) (by kernel_rfl)) (fun _ _ _ _ h hn => allG_low h hn)
theorem x190 : ExOk Try.prog pg kt 190 sortG := .mk' (f := 22) rfl (by kernel_rfl) (sort_ok ⟨fun p c w => Try.slices_Sort_string_none p c w, fun b o c ss w h1 h2 h3 => Try.slices_Sort_string b o c ss w h1 h2 h3⟩) (fun _ _ _ _ h hn => sortG_low h hn)
theorem xo : AllEx Try.prog pg kt xs := .cons x53 (.cons x58 (.cons x190 (.nil)))
theorem ok : Ok Try.prog pg kt := prog_ok fo xo
theorem own : ownKnob Try.prog.godebug = none := by kernel_rfl
theorem lo : laidOutB Try.prog = true := by kernel_rfl
theorem pl : plainSet Try.prog [9, 3, 4, 22, 29] = true := by kernel_rfl
theorem hasR : HasR pg where
  n50 := ⟨rfl, rfl, rfl⟩
  n51 := ⟨rfl, rfl, rfl⟩
  n52 := ⟨rfl, rfl, .inr rfl⟩
  n53 := rfl
theorem hasR0 : HasR0 pg := { hasR with n49 := ⟨rfl, rfl, rfl⟩ }
theorem c29 : Try.prog.cellsOf 29 = 4 := by kernel_rfl
theorem stepsOf : ∀ {xs : List (List AV)}, TypedR Try.prog 29 xs → ∃ L : List Stp, xs = L.map Stp.row
  | [], _ => ⟨[], rfl⟩
  | r :: rs, h => by
    cases h with
    | cons h ht =>
      obtain ⟨L, rfl⟩ := stepsOf ht
      have h := typed_struct Try.underlying29 h
      obtain ⟨a, _, rfl, h1, h⟩ := typedF_cons h
      obtain ⟨b, _, rfl, h2, h⟩ := typedF_cons h
      obtain ⟨c, _, rfl, h3, h⟩ := typedF_cons h
      obtain ⟨d, _, rfl, h4, h⟩ := typedF_cons h
      obtain rfl := typedF_nil h
      obtain ⟨x1, rfl, _⟩ := typed_str Try.underlying9 h1
      obtain ⟨x2, rfl, _⟩ := typed_int Try.underlying3 h2
      obtain ⟨x3, rfl, _⟩ := typed_int Try.underlying3 h3
      obtain ⟨x4, rfl⟩ := typed_bool Try.underlying4 h4
      exact ⟨⟨x1, x2, x3, x4⟩ :: L, rfl⟩
theorem steps_in : ∀ {L : List Stp}, TypedR Try.prog 29 (L.map Stp.row) → ∀ s ∈ L, s.till ≤ 9223372036854775807
  | [], _ => fun _ h => by cases h
  | s :: L, h => by
    cases h with
    | cons h ht =>
      intro x hx
      rcases List.mem_cons.1 hx with rfl | hx
      · have h := typed_struct Try.underlying29 h
        obtain ⟨a, _, e1, h1, h⟩ := typedF_cons h
        obtain ⟨b, _, e2, h2, h⟩ := typedF_cons h
        obtain ⟨x1, rfl, _⟩ := typed_str Try.underlying9 h1
        obtain ⟨x2, rfl, hx2⟩ := typed_int Try.underlying3 h2
        subst e2
        simp only [Stp.row, List.cons_append, List.nil_append, List.cons.injEq, AV.sc.injEq, Value.int.injEq, true_and] at e1
        rw [e1.2.1]
        exact (i64_in hx2).2
      · exact steps_in ht x hx
theorem targ_steps {ts : List TypeId} {l : List AV} (h : TypedArgs Try.prog (22 :: ts) l) : ∃ L r, l = stpA L :: r ∧ (L.length ≤ maxLen ∧ ∀ s ∈ L, s.till ≤ 9223372036854775807) ∧ TypedArgs Try.prog ts r := by
  obtain ⟨xs, r, rfl, hl, hx, h2⟩ := targ_slice Try.underlying22 h
  obtain ⟨L, rfl⟩ := stepsOf hx
  exact ⟨L, r, by rw [c29]; rfl, ⟨by simpa using hl, steps_in hx⟩, h2⟩
theorem hasR2 : HasR2 pg := { hasR0 with n58 := rfl }


theorem run_replayPlays : ∀ avs, TypedArgs Try.prog Try.f7.params.toList avs → Tru (docall pg (run pg) 7 avs S0) := by
  intro avs h
  rw [Try.params7] at h
  obtain ⟨x0, _, rfl, hx0, h⟩ := targ_int Try.underlying3 h
  obtain ⟨x1, _, rfl, hx1, h⟩ := targ_steps h
  obtain rfl := targs_nil h
  exact plays_law { hasR2 with n7 := ⟨rfl, rfl, rfl⟩, n54 := ⟨rfl, rfl, rfl⟩, n55 := ⟨rfl, rfl, rfl⟩, n56 := ⟨rfl, rfl, rfl⟩, n57 := ⟨rfl, rfl, rfl⟩ } (Nat.le_refl _) x0 x1 hx1.1
set_option maxRecDepth 100000 in
theorem replayPlays_lifted (os : Os) (started : os.Started) (H : Type) (enc : TypeId × Value → H) :
    ReturnsInHanded {} Try.checked os 7 .any (Rows.replayPlaysSpec.pre6 enc Try.prog Try.f7 Rows.replayPlaysRow.domain false) (Rows.replayPlaysSpec.post enc Try.prog Try.f7 false true false false) := by
  refine returnsInHanded_of_change (C := Try.checked) own started (by kernel_rfl) Try.func7
    (ChangeSpec.witness6 (enc := enc) (C := Try.checked) false ⟨#[], #[.int .i64 0, .slice none 0 0], []⟩ 8 (by kernel_rfl) (by kernel_rfl) (by kernel_rfl) (by kernel_rfl)) ?_
  intro W base args ds gs before hval hW _ _
  refine law_contract (P := Try.prog) (fn := Try.f7) (key := 7) (L := [9, 3, 4, 22, 29]) ok rfl (fun W g v h => by cases h) lo pl (by rw [Try.params7]; intro t ht; revert t; decide +kernel) rfl (by kernel_rfl) rfl ?_ ?_ hval hW
  · intro ds hl
    have hl : ds.length = 2 := hl
    match ds, hl with | [d0, d1], _ => exact ⟨rfl, rfl, rfl⟩
  · exact run_replayPlays

theorem replayPlays_holds : Rows.ReplayPlaysSaid :=
  OpenClaim.holds_of_wide 7 Try.f7 rfl rfl rfl rfl rfl rfl rfl ⟨rfl, rfl, rfl, rfl, rfl⟩ rfl rfl rfl rfl rfl (by kernel_rfl) Try.func7 (by kernel_rfl)
    (of_decide_eq_true (by kernel_rfl)) (by unfold Func.isWrapper; first | (rw [if_pos (by decide +kernel)]; kernel_rfl) | (rw [if_neg (by decide +kernel)]; exact ⟨rfl, rfl⟩))
    (fun os started H enc _ => replayPlays_lifted os started H enc)
#print axioms replayPlays_holds
end Go.Proofs.Ytebibndnphkmeaa
