/- Mech laws hold, whatever the input: what a mechanism makes is taken, and nothing else. -/
import Derived.Test.YtpmgdaoofalpnaaGreatDoorFB
import Derived.Test.YtpmgdaoofalpnaaGreatDoorLw
set_option linter.unusedVariables false
set_option linter.unusedSimpArgs false
set_option linter.unusedSectionVars false
namespace Go.Proofs.YtpmgdaoofalpnaaGreatDoor
open Go Abs Go.RowKit


theorem run_mechChallenges {H : Type} {ds : List (DataW H)} : ∀ avs, RdArgs Tryz.prog Tryz.f3.params.toList ds avs → Rch Tryz.prog reachBytes Tryz.f3.params.toList ds → Tru (docall AA (run AA) 32 avs S0) := by
  intro avs h hw
  obtain ⟨_, hT⟩ := hT
  rw [Tryz.params3] at h hw
  obtain ⟨_, hV⟩ := hV
  obtain ⟨x0, _, _, rfl, h0, h, hw⟩ := ra_five hT hV h hw
  obtain ⟨x1, _, _, rfl, k1, h1, h, hw⟩ := ra_term hT h hw
  obtain ⟨x2, _, _, rfl, h2, h, hw⟩ := ra_int Tryz.underlying3 h hw
  obtain ⟨x3, _, _, rfl, h3, h, hw⟩ := ra_int Tryz.underlying3 h hw
  obtain rfl := ra_nil h
  exact ⟨_, law32 ⟨bb_of h0.1, bb_of h0.2.1, bb_of h0.2.2.1, bb_of h0.2.2.2.1, bb_of h0.2.2.2.2⟩ (bb_of h1)⟩
theorem reads_mechChallenges (os : Os) {H : Type} (enc : TypeId × Value → H) : ∃ places, DataW.whole enc Tryz.prog ((World.doorLaid Tryz.prog 80 os).forCall (fun _ _ => 0) ⟨#[], #[.agg #[.int .i64 0, .string ⟨#[]⟩, .slice none 0 0, .int .i64 0, .string ⟨#[]⟩, .slice none 0 0, .int .i64 0, .string ⟨#[]⟩, .slice none 0 0, .int .i64 0, .string ⟨#[]⟩, .slice none 0 0, .int .i64 0, .string ⟨#[]⟩, .slice none 0 0], .agg #[.int .i64 0, .string ⟨#[]⟩, .slice none 0 0], .int .i64 0, .int .i64 0], []⟩).memory Tryz.f3.params.toList Rows.mechChallengesSpec.vars false (#[.agg #[.int .i64 0, .string ⟨#[]⟩, .slice none 0 0, .int .i64 0, .string ⟨#[]⟩, .slice none 0 0, .int .i64 0, .string ⟨#[]⟩, .slice none 0 0, .int .i64 0, .string ⟨#[]⟩, .slice none 0 0, .int .i64 0, .string ⟨#[]⟩, .slice none 0 0], .agg #[.int .i64 0, .string ⟨#[]⟩, .slice none 0 0], .int .i64 0, .int .i64 0] : Array Value).toList 8 = some ([.agg [.agg [.lit (.int .i64 0), .lit (.string []), .nil], .agg [.lit (.int .i64 0), .lit (.string []), .nil], .agg [.lit (.int .i64 0), .lit (.string []), .nil], .agg [.lit (.int .i64 0), .lit (.string []), .nil], .agg [.lit (.int .i64 0), .lit (.string []), .nil]], .agg [.lit (.int .i64 0), .lit (.string []), .nil], .lit (.int .i64 0), .lit (.int .i64 0)], [], places) :=
  ⟨[], by kernel_rfl⟩
set_option maxRecDepth 100000 in
theorem mechChallenges_lifted (os : Os) (started : os.Started) (H : Type) (enc : TypeId × Value → H) (F : Stop.Interp) :
    ReturnsInHanded {} Tryz.checked os 3 .any ((OpenSpec.ofChange Rows.mechChallengesSpec).preRow enc Tryz.prog Tryz.f3 Rows.mechChallengesRow.domain false Rows.mechChallengesRow.laid) (((OpenSpec.ofChange Rows.mechChallengesSpec).at F).post enc Tryz.prog Tryz.f3 false true false false) := by
  obtain ⟨places, hx⟩ := reads_mechChallenges os enc
  refine returnsInHanded_of_row (C := Tryz.checked) (s := (OpenSpec.ofChange Rows.mechChallengesSpec)) own started (by kernel_rfl) Tryz.func3
    (witness_row_atRef (enc := enc) (C := Tryz.checked) false (World.doorLaid Tryz.prog 80 os) #[.agg #[.int .i64 0, .string ⟨#[]⟩, .slice none 0 0, .int .i64 0, .string ⟨#[]⟩, .slice none 0 0, .int .i64 0, .string ⟨#[]⟩, .slice none 0 0, .int .i64 0, .string ⟨#[]⟩, .slice none 0 0, .int .i64 0, .string ⟨#[]⟩, .slice none 0 0], .agg #[.int .i64 0, .string ⟨#[]⟩, .slice none 0 0], .int .i64 0, .int .i64 0] rfl (by kernel_rfl) (by kernel_rfl) (by kernel_rfl)
      (OpenSpec.preRow_of_cond 8 hx (by kernel_rfl) (fun k hk => by cases hk) (by kernel_rfl) (door_met os _))) ?_
  intro W base args ds gs before hval hW _ hcond hz hL _ _
  have hz : (DataW.weightsEach Tryz.prog (Tryz.f3.params.toList ++ []) (ds ++ gs)).all (· ≤ reachBytes) = true := hz
  have hgs : gs = [] := by
    obtain ⟨_, _, _, h2, _⟩ := hW
    exact (Go.ChangeShapes.trodVars_none h2).1
  subst hgs
  rw [List.append_nil, List.append_nil] at hz
  refine law_contractW (P := Tryz.prog) (fn := Tryz.f3) (s := Rows.mechChallengesSpec) (key := 32) (L := [3, 4, 9, 22, 24, 26, 43]) ok rfl lo pl (by rw [Tryz.params3]; intro t ht; revert t; decide +kernel) rfl (by kernel_rfl) rfl ?_ (glob_ok hL) ?_ hval hW
  · intro ds hl
    have hl : ds.length = 4 := hl
    match ds, hl with | [d0, d1, d2, d3], _ => exact ⟨rfl, rfl, rfl⟩
  · exact fun avs _ h => run_mechChallenges avs h hz
theorem mechChallenges_said : Rows.MechChallengesSaid :=
  OpenClaim.holds_of_cond 3 Tryz.f3 rfl rfl rfl rfl rfl rfl rfl ⟨rfl, rfl, rfl, rfl, rfl⟩ rfl rfl rfl rfl rfl (by kernel_rfl) Tryz.func3 (by kernel_rfl)
    (of_decide_eq_true (by kernel_rfl)) (by unfold Func.isWrapper; first | (rw [if_pos (by decide +kernel)]; kernel_rfl) | (rw [if_neg (by decide +kernel)]; exact ⟨rfl, rfl⟩))
    (fun os started H enc _ F => by rw [OpenClaim.pre_eq_preRow]; exact mechChallenges_lifted os started H enc F)
theorem mechChallenges_plain (f : FuncId) (fn : Func) (hf : Tryz.pinned.checked.prog.funcNamed "sluiceway/sluicewaylaw17.MechChallenges" = some f) (hfn : Tryz.pinned.checked.prog.funcs[f]? = some fn) :
    true = Tryz.pinned.checked.prog.looks [] ∧ ∀ (j : Nat) t, fn.params[j]? = some t → Tryz.pinned.checked.prog.wantsStandIn t = false := by
  obtain rfl : f = 3 := Option.some.inj ((show Tryz.prog.funcNamed "sluiceway/sluicewaylaw17.MechChallenges" = some 3 by kernel_rfl).symm.trans hf) |>.symm
  obtain rfl : fn = Tryz.f3 := (Option.some.inj (Tryz.func3.symm.trans hfn)).symm
  refine ⟨by kernel_rfl, fun j t ht => ?_⟩
  rw [Tryz.params3] at ht
  exact (show ∀ t ∈ (#[26, 24, 3, 3] : Array TypeId), Tryz.prog.wantsStandIn t = false by decide +kernel) t (Array.mem_of_getElem? ht)
theorem mechChallenges_card : Rows.MechChallengesCardSaid :=
  Claim7.holds_tied_plain_at .later [] _ _ _ _ mechChallenges_said (fun _ h => by cases h) (by kernel_rfl) (fun _ h => by cases h) mechChallenges_row_tie rfl ⟨rfl, rfl⟩ (by kernel_rfl) rfl mechChallenges_plain (by kernel_rfl)
#print axioms mechChallenges_card
end Go.Proofs.YtpmgdaoofalpnaaGreatDoor
