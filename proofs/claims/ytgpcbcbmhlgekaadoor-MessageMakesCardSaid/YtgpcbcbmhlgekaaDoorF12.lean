/- The Message laws hold: what one side packs and asks is what the other side reads, whatever the input. -/
import Derived.Test.YtgpcbcbmhlgekaaDoorFB
import Derived.Test.YtgpcbcbmhlgekaaDoorLw
set_option linter.unusedVariables false
set_option linter.unusedSimpArgs false
set_option linter.unusedSectionVars false
namespace Go.Proofs.YtgpcbcbmhlgekaaDoor
open Go Abs Go.RowKit


theorem run_messageMakes {H : Type} {ds : List (DataW H)} : ∀ avs, RdArgs Tryd.prog Tryd.f3.params.toList ds avs → Rch Tryd.prog reachBytes Tryd.f3.params.toList ds → Tru (docall AA (run AA) 12 avs S0) := by
  intro avs h hw
  obtain ⟨_, hT⟩ := hT
  rw [Tryd.params3] at h hw
  obtain ⟨x0, _, _, rfl, h0, h, hw⟩ := ra_str Tryd.underlying9 h hw
  obtain ⟨x1, _, _, rfl, k1, h1, h, hw⟩ := ra_term hT h hw
  obtain ⟨x2, _, _, rfl, k2, h2, h, hw⟩ := ra_term hT h hw
  obtain ⟨x3, _, _, rfl, k3, h3, h, hw⟩ := ra_term hT h hw
  obtain ⟨x4, _, _, rfl, h4, l4, h, hw⟩ := ra_strs Tryd.underlying25 Tryd.underlying9 (by kernel_rfl) (by kernel_rfl) h hw
  obtain ⟨x5, _, _, rfl, h5, h, hw⟩ := ra_int Tryd.underlying3 h hw
  obtain rfl := ra_nil h
  exact ⟨_, law12 (good_of h1).fits (good_of h2).fits (good_of h3).fits (by have := rb; omega) (fun s hs => by have := h4 s hs; have := rb; omega) h5⟩
theorem reads_messageMakes (os : Os) {H : Type} (enc : TypeId × Value → H) : ∃ places, DataW.whole enc Tryd.prog ((World.doorLaid Tryd.prog 80 os).forCall (fun _ _ => 0) ⟨#[], #[.string ⟨#[]⟩, .agg #[.int .i64 0, .string ⟨#[]⟩, .slice none 0 0], .agg #[.int .i64 0, .string ⟨#[]⟩, .slice none 0 0], .agg #[.int .i64 0, .string ⟨#[]⟩, .slice none 0 0], .slice none 0 0, .int .i64 0], []⟩).memory Tryd.f3.params.toList Rows.messageMakesSpec.vars false (#[.string ⟨#[]⟩, .agg #[.int .i64 0, .string ⟨#[]⟩, .slice none 0 0], .agg #[.int .i64 0, .string ⟨#[]⟩, .slice none 0 0], .agg #[.int .i64 0, .string ⟨#[]⟩, .slice none 0 0], .slice none 0 0, .int .i64 0] : Array Value).toList 8 = some ([.lit (.string []), .agg [.lit (.int .i64 0), .lit (.string []), .nil], .agg [.lit (.int .i64 0), .lit (.string []), .nil], .agg [.lit (.int .i64 0), .lit (.string []), .nil], .nil, .lit (.int .i64 0)], [], places) :=
  ⟨[], by kernel_rfl⟩
set_option maxRecDepth 100000 in
theorem messageMakes_lifted (os : Os) (started : os.Started) (H : Type) (enc : TypeId × Value → H) (F : Stop.Interp) :
    ReturnsInHanded {} Tryd.checked os 3 .any ((OpenSpec.ofChange Rows.messageMakesSpec).preRow enc Tryd.prog Tryd.f3 Rows.messageMakesRow.domain false Rows.messageMakesRow.laid) (((OpenSpec.ofChange Rows.messageMakesSpec).at F).post enc Tryd.prog Tryd.f3 false true false false) := by
  obtain ⟨places, hx⟩ := reads_messageMakes os enc
  refine returnsInHanded_of_row (C := Tryd.checked) (s := (OpenSpec.ofChange Rows.messageMakesSpec)) own started (by kernel_rfl) Tryd.func3
    (witness_row_atRef (enc := enc) (C := Tryd.checked) false (World.doorLaid Tryd.prog 80 os) #[.string ⟨#[]⟩, .agg #[.int .i64 0, .string ⟨#[]⟩, .slice none 0 0], .agg #[.int .i64 0, .string ⟨#[]⟩, .slice none 0 0], .agg #[.int .i64 0, .string ⟨#[]⟩, .slice none 0 0], .slice none 0 0, .int .i64 0] rfl (by kernel_rfl) (by kernel_rfl) (by kernel_rfl)
      (OpenSpec.preRow_of_cond 8 hx (by kernel_rfl) (fun k hk => by cases hk) (by kernel_rfl) (door_met os _))) ?_
  intro W base args ds gs before hval hW _ hcond hz hL _ _
  have hz : (DataW.weightsEach Tryd.prog (Tryd.f3.params.toList ++ []) (ds ++ gs)).all (· ≤ reachBytes) = true := hz
  have hgs : gs = [] := by
    obtain ⟨_, _, _, h2, _⟩ := hW
    exact (Go.ChangeShapes.trodVars_none h2).1
  subst hgs
  rw [List.append_nil, List.append_nil] at hz
  refine law_contractW (P := Tryd.prog) (fn := Tryd.f3) (s := Rows.messageMakesSpec) (key := 12) (L := [3, 4, 9, 22, 24, 25]) ok rfl lo pl (by rw [Tryd.params3]; intro t ht; revert t; decide +kernel) rfl (by kernel_rfl) rfl ?_ (glob_ok hL) ?_ hval hW
  · intro ds hl
    have hl : ds.length = 6 := hl
    match ds, hl with | [d0, d1, d2, d3, d4, d5], _ => exact ⟨rfl, rfl, rfl⟩
  · exact fun avs _ h => run_messageMakes avs h hz
theorem messageMakes_said : Rows.MessageMakesSaid :=
  OpenClaim.holds_of_cond 3 Tryd.f3 rfl rfl rfl rfl rfl rfl rfl ⟨rfl, rfl, rfl, rfl, rfl⟩ rfl rfl rfl rfl rfl (by kernel_rfl) Tryd.func3 (by kernel_rfl)
    (of_decide_eq_true (by kernel_rfl)) (by unfold Func.isWrapper; first | (rw [if_pos (by decide +kernel)]; kernel_rfl) | (rw [if_neg (by decide +kernel)]; exact ⟨rfl, rfl⟩))
    (fun os started H enc _ F => by rw [OpenClaim.pre_eq_preRow]; exact messageMakes_lifted os started H enc F)
theorem messageMakes_plain (f : FuncId) (fn : Func) (hf : Tryd.pinned.checked.prog.funcNamed "sluiceway/sluicewaylaw15.MessageMakes" = some f) (hfn : Tryd.pinned.checked.prog.funcs[f]? = some fn) :
    true = Tryd.pinned.checked.prog.looks [] ∧ ∀ (j : Nat) t, fn.params[j]? = some t → Tryd.pinned.checked.prog.wantsStandIn t = false := by
  obtain rfl : f = 3 := Option.some.inj ((show Tryd.prog.funcNamed "sluiceway/sluicewaylaw15.MessageMakes" = some 3 by kernel_rfl).symm.trans hf) |>.symm
  obtain rfl : fn = Tryd.f3 := (Option.some.inj (Tryd.func3.symm.trans hfn)).symm
  refine ⟨by kernel_rfl, fun j t ht => ?_⟩
  rw [Tryd.params3] at ht
  exact (show ∀ t ∈ (#[9, 24, 24, 24, 25, 3] : Array TypeId), Tryd.prog.wantsStandIn t = false by decide +kernel) t (Array.mem_of_getElem? ht)
theorem messageMakes_card : Rows.MessageMakesCardSaid :=
  Claim7.holds_tied_plain_at .later [] _ _ _ _ messageMakes_said (fun _ h => by cases h) (by kernel_rfl) (fun _ h => by cases h) messageMakes_row_tie rfl ⟨rfl, rfl⟩ (by kernel_rfl) rfl messageMakes_plain (by kernel_rfl)
#print axioms messageMakes_card
end Go.Proofs.YtgpcbcbmhlgekaaDoor
