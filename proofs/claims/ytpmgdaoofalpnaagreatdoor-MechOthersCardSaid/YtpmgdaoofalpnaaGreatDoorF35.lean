/- Mech laws hold, whatever the input: what a mechanism makes is taken, and nothing else. -/
import Derived.Test.YtpmgdaoofalpnaaGreatDoorFB
import Derived.Test.YtpmgdaoofalpnaaGreatDoorLw
set_option linter.unusedVariables false
set_option linter.unusedSimpArgs false
set_option linter.unusedSectionVars false
namespace Go.Proofs.YtpmgdaoofalpnaaGreatDoor
open Go Abs Go.RowKit


theorem run_mechOthers {H : Type} {ds : List (DataW H)} : ∀ avs, RdArgs Tryz.prog Tryz.f6.params.toList ds avs → Rch Tryz.prog reachBytes Tryz.f6.params.toList ds → Tru (docall AA (run AA) 35 avs S0) := by
  intro avs h hw
  obtain ⟨_, hT⟩ := hT
  rw [Tryz.params6] at h hw
  obtain ⟨x0, _, _, rfl, h0, h, hw⟩ := ra_str Tryz.underlying9 h hw
  obtain rfl := ra_nil h
  exact law35 (by have := rb; omega)
theorem reads_mechOthers (os : Os) {H : Type} (enc : TypeId × Value → H) : ∃ places, DataW.whole enc Tryz.prog ((World.doorLaid Tryz.prog 80 os).forCall (fun _ _ => 0) ⟨#[], #[.string ⟨#[]⟩], []⟩).memory Tryz.f6.params.toList Rows.mechOthersSpec.vars false (#[.string ⟨#[]⟩] : Array Value).toList 8 = some ([.lit (.string [])], [], places) :=
  ⟨[], by kernel_rfl⟩
set_option maxRecDepth 100000 in
theorem mechOthers_lifted (os : Os) (started : os.Started) (H : Type) (enc : TypeId × Value → H) (F : Stop.Interp) :
    ReturnsInHanded {} Tryz.checked os 6 .any ((OpenSpec.ofChange Rows.mechOthersSpec).preRow enc Tryz.prog Tryz.f6 Rows.mechOthersRow.domain false Rows.mechOthersRow.laid) (((OpenSpec.ofChange Rows.mechOthersSpec).at F).post enc Tryz.prog Tryz.f6 false true false false) := by
  obtain ⟨places, hx⟩ := reads_mechOthers os enc
  refine returnsInHanded_of_row (C := Tryz.checked) (s := (OpenSpec.ofChange Rows.mechOthersSpec)) own started (by kernel_rfl) Tryz.func6
    (witness_row_atRef (enc := enc) (C := Tryz.checked) false (World.doorLaid Tryz.prog 80 os) #[.string ⟨#[]⟩] rfl (by kernel_rfl) (by kernel_rfl) (by kernel_rfl)
      (OpenSpec.preRow_of_cond 8 hx (by kernel_rfl) (fun k hk => by cases hk) (by kernel_rfl) (door_met os _))) ?_
  intro W base args ds gs before hval hW _ hcond hz hL _ _
  have hz : (DataW.weightsEach Tryz.prog (Tryz.f6.params.toList ++ []) (ds ++ gs)).all (· ≤ reachBytes) = true := hz
  have hgs : gs = [] := by
    obtain ⟨_, _, _, h2, _⟩ := hW
    exact (Go.ChangeShapes.trodVars_none h2).1
  subst hgs
  rw [List.append_nil, List.append_nil] at hz
  refine law_contractW (P := Tryz.prog) (fn := Tryz.f6) (s := Rows.mechOthersSpec) (key := 35) (L := [3, 4, 9, 22, 24, 26, 43]) ok rfl lo pl (by rw [Tryz.params6]; intro t ht; revert t; decide +kernel) rfl (by kernel_rfl) rfl ?_ (glob_ok hL) ?_ hval hW
  · intro ds hl
    have hl : ds.length = 1 := hl
    match ds, hl with | [d0], _ => exact ⟨rfl, rfl, rfl⟩
  · exact fun avs _ h => run_mechOthers avs h hz
theorem mechOthers_said : Rows.MechOthersSaid :=
  OpenClaim.holds_of_cond 6 Tryz.f6 rfl rfl rfl rfl rfl rfl rfl ⟨rfl, rfl, rfl, rfl, rfl⟩ rfl rfl rfl rfl rfl (by kernel_rfl) Tryz.func6 (by kernel_rfl)
    (of_decide_eq_true (by kernel_rfl)) (by unfold Func.isWrapper; first | (rw [if_pos (by decide +kernel)]; kernel_rfl) | (rw [if_neg (by decide +kernel)]; exact ⟨rfl, rfl⟩))
    (fun os started H enc _ F => by rw [OpenClaim.pre_eq_preRow]; exact mechOthers_lifted os started H enc F)
theorem mechOthers_plain (f : FuncId) (fn : Func) (hf : Tryz.pinned.checked.prog.funcNamed "sluiceway/sluicewaylaw17.MechOthers" = some f) (hfn : Tryz.pinned.checked.prog.funcs[f]? = some fn) :
    true = Tryz.pinned.checked.prog.looks [] ∧ ∀ (j : Nat) t, fn.params[j]? = some t → Tryz.pinned.checked.prog.wantsStandIn t = false := by
  obtain rfl : f = 6 := Option.some.inj ((show Tryz.prog.funcNamed "sluiceway/sluicewaylaw17.MechOthers" = some 6 by kernel_rfl).symm.trans hf) |>.symm
  obtain rfl : fn = Tryz.f6 := (Option.some.inj (Tryz.func6.symm.trans hfn)).symm
  refine ⟨by kernel_rfl, fun j t ht => ?_⟩
  rw [Tryz.params6] at ht
  exact (show ∀ t ∈ (#[9] : Array TypeId), Tryz.prog.wantsStandIn t = false by decide +kernel) t (Array.mem_of_getElem? ht)
theorem mechOthers_card : Rows.MechOthersCardSaid :=
  Claim7.holds_tied_plain_at .later [] _ _ _ _ mechOthers_said (fun _ h => by cases h) (by kernel_rfl) (fun _ h => by cases h) mechOthers_row_tie rfl ⟨rfl, rfl⟩ (by kernel_rfl) rfl mechOthers_plain (by kernel_rfl)
#print axioms mechOthers_card
end Go.Proofs.YtpmgdaoofalpnaaGreatDoor
