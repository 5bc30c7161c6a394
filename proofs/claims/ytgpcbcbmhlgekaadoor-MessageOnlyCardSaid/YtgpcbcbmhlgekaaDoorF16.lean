/- The Message laws hold: what one side packs and asks is what the other side reads, whatever the input. -/
import Derived.Test.YtgpcbcbmhlgekaaDoorFB
import Derived.Test.YtgpcbcbmhlgekaaDoorLw
set_option linter.unusedVariables false
set_option linter.unusedSimpArgs false
set_option linter.unusedSectionVars false
namespace Go.Proofs.YtgpcbcbmhlgekaaDoor
open Go Abs Go.RowKit


theorem run_messageOnly {H : Type} {ds : List (DataW H)} : ∀ avs, RdArgs Tryd.prog Tryd.f6.params.toList ds avs → Rch Tryd.prog reachBytes Tryd.f6.params.toList ds → Tru (docall AA (run AA) 16 avs S0) := by
  intro avs h hw
  obtain ⟨_, hT⟩ := hT
  rw [Tryd.params6] at h hw
  obtain ⟨x0, _, _, rfl, k0, h0, h, hw⟩ := ra_term hT h hw
  obtain rfl := ra_nil h
  exact ⟨_, law16 (good_of h0)⟩
theorem reads_messageOnly (os : Os) {H : Type} (enc : TypeId × Value → H) : ∃ places, DataW.whole enc Tryd.prog ((World.doorLaid Tryd.prog 80 os).forCall (fun _ _ => 0) ⟨#[], #[.agg #[.int .i64 0, .string ⟨#[]⟩, .slice none 0 0]], []⟩).memory Tryd.f6.params.toList Rows.messageOnlySpec.vars false (#[.agg #[.int .i64 0, .string ⟨#[]⟩, .slice none 0 0]] : Array Value).toList 8 = some ([.agg [.lit (.int .i64 0), .lit (.string []), .nil]], [], places) :=
  ⟨[], by kernel_rfl⟩
set_option maxRecDepth 100000 in
theorem messageOnly_lifted (os : Os) (started : os.Started) (H : Type) (enc : TypeId × Value → H) (F : Stop.Interp) :
    ReturnsInHanded {} Tryd.checked os 6 .any ((OpenSpec.ofChange Rows.messageOnlySpec).preRow enc Tryd.prog Tryd.f6 Rows.messageOnlyRow.domain false Rows.messageOnlyRow.laid) (((OpenSpec.ofChange Rows.messageOnlySpec).at F).post enc Tryd.prog Tryd.f6 false true false false) := by
  obtain ⟨places, hx⟩ := reads_messageOnly os enc
  refine returnsInHanded_of_row (C := Tryd.checked) (s := (OpenSpec.ofChange Rows.messageOnlySpec)) own started (by kernel_rfl) Tryd.func6
    (witness_row_atRef (enc := enc) (C := Tryd.checked) false (World.doorLaid Tryd.prog 80 os) #[.agg #[.int .i64 0, .string ⟨#[]⟩, .slice none 0 0]] rfl (by kernel_rfl) (by kernel_rfl) (by kernel_rfl)
      (OpenSpec.preRow_of_cond 8 hx (by kernel_rfl) (fun k hk => by cases hk) (by kernel_rfl) (door_met os _))) ?_
  intro W base args ds gs before hval hW _ hcond hz hL _ _
  have hz : (DataW.weightsEach Tryd.prog (Tryd.f6.params.toList ++ []) (ds ++ gs)).all (· ≤ reachBytes) = true := hz
  have hgs : gs = [] := by
    obtain ⟨_, _, _, h2, _⟩ := hW
    exact (Go.ChangeShapes.trodVars_none h2).1
  subst hgs
  rw [List.append_nil, List.append_nil] at hz
  refine law_contractW (P := Tryd.prog) (fn := Tryd.f6) (s := Rows.messageOnlySpec) (key := 16) (L := [3, 4, 9, 22, 24, 25]) ok rfl lo pl (by rw [Tryd.params6]; intro t ht; revert t; decide +kernel) rfl (by kernel_rfl) rfl ?_ (glob_ok hL) ?_ hval hW
  · intro ds hl
    have hl : ds.length = 1 := hl
    match ds, hl with | [d0], _ => exact ⟨rfl, rfl, rfl⟩
  · exact fun avs _ h => run_messageOnly avs h hz
theorem messageOnly_said : Rows.MessageOnlySaid :=
  OpenClaim.holds_of_cond 6 Tryd.f6 rfl rfl rfl rfl rfl rfl rfl ⟨rfl, rfl, rfl, rfl, rfl⟩ rfl rfl rfl rfl rfl (by kernel_rfl) Tryd.func6 (by kernel_rfl)
    (of_decide_eq_true (by kernel_rfl)) (by unfold Func.isWrapper; first | (rw [if_pos (by decide +kernel)]; kernel_rfl) | (rw [if_neg (by decide +kernel)]; exact ⟨rfl, rfl⟩))
    (fun os started H enc _ F => by rw [OpenClaim.pre_eq_preRow]; exact messageOnly_lifted os started H enc F)
theorem messageOnly_plain (f : FuncId) (fn : Func) (hf : Tryd.pinned.checked.prog.funcNamed "sluiceway/sluicewaylaw15.MessageOnly" = some f) (hfn : Tryd.pinned.checked.prog.funcs[f]? = some fn) :
    true = Tryd.pinned.checked.prog.looks [] ∧ ∀ (j : Nat) t, fn.params[j]? = some t → Tryd.pinned.checked.prog.wantsStandIn t = false := by
  obtain rfl : f = 6 := Option.some.inj ((show Tryd.prog.funcNamed "sluiceway/sluicewaylaw15.MessageOnly" = some 6 by kernel_rfl).symm.trans hf) |>.symm
  obtain rfl : fn = Tryd.f6 := (Option.some.inj (Tryd.func6.symm.trans hfn)).symm
  refine ⟨by kernel_rfl, fun j t ht => ?_⟩
  rw [Tryd.params6] at ht
  exact (show ∀ t ∈ (#[24] : Array TypeId), Tryd.prog.wantsStandIn t = false by decide +kernel) t (Array.mem_of_getElem? ht)
theorem messageOnly_card : Rows.MessageOnlyCardSaid :=
  Claim7.holds_tied_plain_at .later [] _ _ _ _ messageOnly_said (fun _ h => by cases h) (by kernel_rfl) (fun _ h => by cases h) messageOnly_row_tie rfl ⟨rfl, rfl⟩ (by kernel_rfl) rfl messageOnly_plain (by kernel_rfl)
#print axioms messageOnly_card
end Go.Proofs.YtgpcbcbmhlgekaaDoor
