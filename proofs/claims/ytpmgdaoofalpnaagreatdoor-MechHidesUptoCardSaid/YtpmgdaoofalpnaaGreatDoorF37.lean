/- MechHides holds, whatever the input of bulk at most 1048576: of what is seen of SPAKE neither the base is known nor can a guess be checked; of a challenge under known armor one can. -/
import Derived.Test.YtpmgdaoofalpnaaGreatDoorFB
import Derived.Test.YtpmgdaoofalpnaaGreatDoorLo
set_option linter.unusedVariables false
set_option linter.unusedSimpArgs false
set_option linter.unusedSectionVars false
namespace Go.Proofs.YtpmgdaoofalpnaaGreatDoor
open Go Abs Go.RowKit


theorem run_mechHides {H : Type} {ds : List (DataW H)} : ∀ avs, RdArgs Tryz.prog Tryz.f8.params.toList ds avs → Rows.uptoBulkAll ds ≤ 1048576 → Tru (docall AA (run AA) 37 avs S0) := by
  intro avs h hw
  obtain ⟨_, hT⟩ := hT
  rw [Tryz.params8] at h
  obtain ⟨x0, _, _, rfl, h0, h, hw⟩ := rb_str isBulkU Tryz.underlying9 h hw
  obtain rfl := ra_nil h
  exact law37 (Nat.le_refl _) (by omega)
theorem reads_mechHides (os : Os) {H : Type} (enc : TypeId × Value → H) : ∃ places, DataW.whole enc Tryz.prog ((World.doorLaid Tryz.prog 80 os).forCall (fun _ _ => 0) ⟨#[], #[.string ⟨#[]⟩], []⟩).memory Tryz.f8.params.toList Rows.mechHidesSpec.vars false (#[.string ⟨#[]⟩] : Array Value).toList 8 = some ([.lit (.string [])], [], places) :=
  ⟨[], by kernel_rfl⟩
set_option maxRecDepth 100000 in
theorem mechHides_lifted (os : Os) (started : os.Started) (H : Type) (enc : TypeId × Value → H) (F : Stop.Interp) :
    ReturnsInHanded {} Tryz.checked os 8 .any ((Rows.OpenSpec.upto Rows.mechHidesSpec).preRow enc Tryz.prog Tryz.f8 Rows.mechHidesUptoRow.domain false Rows.mechHidesUptoRow.laid) (((Rows.OpenSpec.upto Rows.mechHidesSpec).at F).post enc Tryz.prog Tryz.f8 false true false false) := by
  obtain ⟨places, hx⟩ := reads_mechHides os enc
  refine returnsInHanded_of_row (C := Tryz.checked) (s := (Rows.OpenSpec.upto Rows.mechHidesSpec)) own started (by kernel_rfl) Tryz.func8
    (witness_row_atRef (enc := enc) (C := Tryz.checked) false (World.doorLaid Tryz.prog 80 os) #[.string ⟨#[]⟩] rfl (by kernel_rfl) (by kernel_rfl) (by kernel_rfl)
      (OpenSpec.preRow_of_cond 8 hx (by kernel_rfl) (fun k hk => by cases hk; kernel_rfl) (by kernel_rfl) (door_met os _))) ?_
  intro W base args ds gs before hval hW _ hcond hz hL _ _
  have hgs : gs = [] := by
    obtain ⟨_, _, _, h2, _⟩ := hW
    exact (Go.ChangeShapes.trodVars_none h2).1
  subst hgs
  have hz := hcond _ rfl
  rw [List.append_nil] at hz
  have hz : Rows.uptoBulkAll ds ≤ 1048576 := of_decide_eq_true hz
  refine law_contractW (P := Tryz.prog) (fn := Tryz.f8) (s := Rows.mechHidesSpec) (key := 37) (L := [3, 4, 9, 22, 24]) ok rfl lo pl (by rw [Tryz.params8]; intro t ht; revert t; decide +kernel) rfl (by kernel_rfl) rfl ?_ (glob_ok hL) ?_ hval hW
  · intro ds hl
    have hl : ds.length = 1 := hl
    match ds, hl with | [d0], _ => exact ⟨rfl, rfl, rfl⟩
  · exact fun avs _ h => run_mechHides avs h hz
theorem mechHides_said : Rows.MechHidesUptoSaid :=
  OpenClaim.holds_of_cond 8 Tryz.f8 rfl rfl rfl rfl rfl rfl rfl ⟨rfl, rfl, rfl, rfl, rfl⟩ rfl rfl rfl rfl rfl (by kernel_rfl) Tryz.func8 (by kernel_rfl)
    (of_decide_eq_true (by kernel_rfl)) (by unfold Func.isWrapper; first | (rw [if_pos (by decide +kernel)]; kernel_rfl) | (rw [if_neg (by decide +kernel)]; exact ⟨rfl, rfl⟩))
    (fun os started H enc _ F => by rw [OpenClaim.pre_eq_preRow]; exact mechHides_lifted os started H enc F)
theorem mechHides_plain (f : FuncId) (fn : Func) (hf : Tryz.pinned.checked.prog.funcNamed "sluiceway/sluicewaylaw17.MechHides" = some f) (hfn : Tryz.pinned.checked.prog.funcs[f]? = some fn) :
    true = Tryz.pinned.checked.prog.looks [] ∧ ∀ (j : Nat) t, fn.params[j]? = some t → Tryz.pinned.checked.prog.wantsStandIn t = false := by
  obtain rfl : f = 8 := Option.some.inj ((show Tryz.prog.funcNamed "sluiceway/sluicewaylaw17.MechHides" = some 8 by kernel_rfl).symm.trans hf) |>.symm
  obtain rfl : fn = Tryz.f8 := (Option.some.inj (Tryz.func8.symm.trans hfn)).symm
  refine ⟨by kernel_rfl, fun j t ht => ?_⟩
  rw [Tryz.params8] at ht
  exact (show ∀ t ∈ (#[9] : Array TypeId), Tryz.prog.wantsStandIn t = false by decide +kernel) t (Array.mem_of_getElem? ht)
theorem mechHides_card : Rows.MechHidesUptoCardSaid :=
  Claim7.holds_tied_plain_at .later [] _ _ _ _ mechHides_said (fun _ h => by cases h) (by kernel_rfl) (fun _ h => by cases h) mechHidesUpto_row_tie rfl ⟨rfl, rfl⟩ (by kernel_rfl) rfl mechHides_plain (by kernel_rfl)
#print axioms mechHides_card
end Go.Proofs.YtpmgdaoofalpnaaGreatDoor
