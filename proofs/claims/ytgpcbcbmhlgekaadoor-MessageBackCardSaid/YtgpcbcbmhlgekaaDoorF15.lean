/- The Message laws hold: what one side packs and asks is what the other side reads, whatever the input. -/
import Derived.Test.YtgpcbcbmhlgekaaDoorFB
import Derived.Test.YtgpcbcbmhlgekaaDoorLw
set_option linter.unusedVariables false
set_option linter.unusedSimpArgs false
set_option linter.unusedSectionVars false
namespace Go.Proofs.YtgpcbcbmhlgekaaDoor
open Go Abs Go.RowKit


theorem run_messageBack {H : Type} {ds : List (DataW H)} : ∀ avs, RdArgs Tryd.prog Tryd.f5.params.toList ds avs → Rch Tryd.prog reachBytes Tryd.f5.params.toList ds → Tru (docall AA (run AA) 15 avs S0) := by
  intro avs h hw
  obtain ⟨_, hT⟩ := hT
  rw [Tryd.params5] at h hw
  obtain ⟨x0, _, _, rfl, h0, h, hw⟩ := ra_str Tryd.underlying9 h hw
  obtain ⟨x1, _, _, rfl, k1, h1, l1, h, hw⟩ := ra_terms hT h hw
  obtain ⟨x2, _, _, rfl, h2, l2, h, hw⟩ := ra_strs Tryd.underlying25 Tryd.underlying9 (by kernel_rfl) (by kernel_rfl) h hw
  obtain ⟨x3, _, _, rfl, h3, h, hw⟩ := ra_int Tryd.underlying3 h hw
  obtain rfl := ra_nil h
  exact law15 (Nat.le_refl _) (by have := rb; omega) (fun t ht => good_of (bdL_iff.1 h1 t ht)) (fun s hs => by have := h2 s hs; have := rb; omega)
theorem reads_messageBack (os : Os) {H : Type} (enc : TypeId × Value → H) : ∃ places, DataW.whole enc Tryd.prog ((World.doorLaid Tryd.prog 80 os).forCall (fun _ _ => 0) ⟨#[], #[.string ⟨#[]⟩, .slice none 0 0, .slice none 0 0, .int .i64 0], []⟩).memory Tryd.f5.params.toList Rows.messageBackSpec.vars false (#[.string ⟨#[]⟩, .slice none 0 0, .slice none 0 0, .int .i64 0] : Array Value).toList 8 = some ([.lit (.string []), .nil, .nil, .lit (.int .i64 0)], [], places) :=
  ⟨[], by kernel_rfl⟩
set_option maxRecDepth 100000 in
theorem messageBack_lifted (os : Os) (started : os.Started) (H : Type) (enc : TypeId × Value → H) (F : Stop.Interp) :
    ReturnsInHanded {} Tryd.checked os 5 .any ((OpenSpec.ofChange Rows.messageBackSpec).preRow enc Tryd.prog Tryd.f5 Rows.messageBackRow.domain false Rows.messageBackRow.laid) (((OpenSpec.ofChange Rows.messageBackSpec).at F).post enc Tryd.prog Tryd.f5 false true false false) := by
  obtain ⟨places, hx⟩ := reads_messageBack os enc
  refine returnsInHanded_of_row (C := Tryd.checked) (s := (OpenSpec.ofChange Rows.messageBackSpec)) own started (by kernel_rfl) Tryd.func5
    (witness_row_atRef (enc := enc) (C := Tryd.checked) false (World.doorLaid Tryd.prog 80 os) #[.string ⟨#[]⟩, .slice none 0 0, .slice none 0 0, .int .i64 0] rfl (by kernel_rfl) (by kernel_rfl) (by kernel_rfl)
      (OpenSpec.preRow_of_cond 8 hx (by kernel_rfl) (fun k hk => by cases hk) (by kernel_rfl) (door_met os _))) ?_
  intro W base args ds gs before hval hW _ hcond hz hL _ _
  have hz : (DataW.weightsEach Tryd.prog (Tryd.f5.params.toList ++ []) (ds ++ gs)).all (· ≤ reachBytes) = true := hz
  have hgs : gs = [] := by
    obtain ⟨_, _, _, h2, _⟩ := hW
    exact (Go.ChangeShapes.trodVars_none h2).1
  subst hgs
  rw [List.append_nil, List.append_nil] at hz
  refine law_contractW (P := Tryd.prog) (fn := Tryd.f5) (s := Rows.messageBackSpec) (key := 15) (L := [3, 4, 9, 22, 24, 25]) ok rfl lo pl (by rw [Tryd.params5]; intro t ht; revert t; decide +kernel) rfl (by kernel_rfl) rfl ?_ (glob_ok hL) ?_ hval hW
  · intro ds hl
    have hl : ds.length = 4 := hl
    match ds, hl with | [d0, d1, d2, d3], _ => exact ⟨rfl, rfl, rfl⟩
  · exact fun avs _ h => run_messageBack avs h hz
theorem messageBack_said : Rows.MessageBackSaid :=
  OpenClaim.holds_of_cond 5 Tryd.f5 rfl rfl rfl rfl rfl rfl rfl ⟨rfl, rfl, rfl, rfl, rfl⟩ rfl rfl rfl rfl rfl (by kernel_rfl) Tryd.func5 (by kernel_rfl)
    (of_decide_eq_true (by kernel_rfl)) (by unfold Func.isWrapper; first | (rw [if_pos (by decide +kernel)]; kernel_rfl) | (rw [if_neg (by decide +kernel)]; exact ⟨rfl, rfl⟩))
    (fun os started H enc _ F => by rw [OpenClaim.pre_eq_preRow]; exact messageBack_lifted os started H enc F)
theorem messageBack_plain (f : FuncId) (fn : Func) (hf : Tryd.pinned.checked.prog.funcNamed "sluiceway/sluicewaylaw15.MessageBack" = some f) (hfn : Tryd.pinned.checked.prog.funcs[f]? = some fn) :
    true = Tryd.pinned.checked.prog.looks [] ∧ ∀ (j : Nat) t, fn.params[j]? = some t → Tryd.pinned.checked.prog.wantsStandIn t = false := by
  obtain rfl : f = 5 := Option.some.inj ((show Tryd.prog.funcNamed "sluiceway/sluicewaylaw15.MessageBack" = some 5 by kernel_rfl).symm.trans hf) |>.symm
  obtain rfl : fn = Tryd.f5 := (Option.some.inj (Tryd.func5.symm.trans hfn)).symm
  refine ⟨by kernel_rfl, fun j t ht => ?_⟩
  rw [Tryd.params5] at ht
  exact (show ∀ t ∈ (#[9, 22, 25, 3] : Array TypeId), Tryd.prog.wantsStandIn t = false by decide +kernel) t (Array.mem_of_getElem? ht)
theorem messageBack_card : Rows.MessageBackCardSaid :=
  Claim7.holds_tied_plain_at .later [] _ _ _ _ messageBack_said (fun _ h => by cases h) (by kernel_rfl) (fun _ h => by cases h) messageBack_row_tie rfl ⟨rfl, rfl⟩ (by kernel_rfl) rfl messageBack_plain (by kernel_rfl)
#print axioms messageBack_card
end Go.Proofs.YtgpcbcbmhlgekaaDoor
