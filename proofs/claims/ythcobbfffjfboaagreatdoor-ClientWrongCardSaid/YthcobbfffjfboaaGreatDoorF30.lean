/- Client laws hold, whatever the input. -/
import Derived.Test.YthcobbfffjfboaaGreatDoorFB
import Derived.Test.YthcobbfffjfboaaGreatDoorG8
set_option linter.unusedVariables false
set_option linter.unusedSimpArgs false
set_option linter.unusedSectionVars false
namespace Go.Proofs.YthcobbfffjfboaaGreatDoor
open Go Abs Go.RowKit
theorem run_clientWrong {H : Type} {ds : List (DataW H)} : ∀ avs, RdArgs Tryz.prog Tryz.f6.params.toList ds avs → Rch Tryz.prog reachBytes Tryz.f6.params.toList ds → Tru (docall AA (run AA) 30 avs S0) := by
 intro avs h hw
 obtain ⟨_, hT⟩ := hT
 rw [Tryz.params6] at h hw
 obtain ⟨x0, _, _, rfl, h0, h, hw⟩ := ra_int Tryz.underlying3 h hw
 obtain ⟨x1, _, _, rfl, h, hw⟩ := ra_bool Tryz.underlying4 h hw
 obtain rfl := ra_nil h
 exact law30 (Nat.le_refl _)
theorem reads_clientWrong (os : Os) {H : Type} (enc : TypeId × Value → H) : ∃ places, DataW.whole enc Tryz.prog ((World.doorLaid Tryz.prog 80 os).forCall (fun _ _ => 0) ⟨#[], #[.int .i64 0, .bool false], []⟩).memory Tryz.f6.params.toList Rows.clientWrongSpec.vars false (#[.int .i64 0, .bool false] : Array Value).toList 8 = some ([.lit (.int .i64 0), .lit (.bool false)], [], places) :=
 ⟨[], by kernel_rfl⟩
set_option maxRecDepth 100000 in
theorem clientWrong_lifted (os : Os) (started : os.Started) (H : Type) (enc : TypeId × Value → H) (F : Stop.Interp) :
 ReturnsInHanded {} Tryz.checked os 6 .any ((OpenSpec.ofChange Rows.clientWrongSpec).preRow enc Tryz.prog Tryz.f6 Rows.clientWrongRow.domain false Rows.clientWrongRow.laid) (((OpenSpec.ofChange Rows.clientWrongSpec).at F).post enc Tryz.prog Tryz.f6 false true false false) := by
 obtain ⟨places, hx⟩ := reads_clientWrong os enc
 refine returnsInHanded_of_row (C := Tryz.checked) (s := (OpenSpec.ofChange Rows.clientWrongSpec)) own started (by kernel_rfl) Tryz.func6
  (witness_row_atRef (enc := enc) (C := Tryz.checked) false (World.doorLaid Tryz.prog 80 os) #[.int .i64 0, .bool false] rfl (by kernel_rfl) (by kernel_rfl) (by kernel_rfl)
   (OpenSpec.preRow_of_cond 8 hx (by kernel_rfl) (fun k hk => by cases hk) (by kernel_rfl) (door_met os _))) ?_
 intro W base args ds gs before hval hW _ hcond hz hL _ _
 have hz : (DataW.weightsEach Tryz.prog (Tryz.f6.params.toList ++ []) (ds ++ gs)).all (· ≤ reachBytes) = true := hz
 have hgs : gs = [] := by
  obtain ⟨_, _, _, h2, _⟩ := hW
  exact (Go.ChangeShapes.trodVars_none h2).1
 subst hgs
 rw [List.append_nil, List.append_nil] at hz
 refine law_contractW (P := Tryz.prog) (fn := Tryz.f6) (s := Rows.clientWrongSpec) (key := 30) (L := [3, 4, 9, 33, 35, 43]) ok rfl lo pl (by rw [Tryz.params6]; intro t ht; revert t; decide +kernel) rfl (by kernel_rfl) rfl ?_ (glob_ok hL) ?_ hval hW
 ·intro ds hl
  have hl : ds.length = 2 := hl
  match ds, hl with | [d0, d1], _ => exact ⟨rfl, rfl, rfl⟩
 ·exact fun avs _ h => run_clientWrong avs h hz
theorem clientWrong_said : Rows.ClientWrongSaid :=
 OpenClaim.holds_of_cond 6 Tryz.f6 rfl rfl rfl rfl rfl rfl rfl ⟨rfl, rfl, rfl, rfl, rfl⟩ rfl rfl rfl rfl rfl (by kernel_rfl) Tryz.func6 (by kernel_rfl)
  (of_decide_eq_true (by kernel_rfl)) (by unfold Func.isWrapper; first | (rw [if_pos (by decide +kernel)]; kernel_rfl) | (rw [if_neg (by decide +kernel)]; exact ⟨rfl, rfl⟩))
  (fun os started H enc _ F => by rw [OpenClaim.pre_eq_preRow]; exact clientWrong_lifted os started H enc F)
theorem clientWrong_plain (f : FuncId) (fn : Func) (hf : Tryz.pinned.checked.prog.funcNamed "sluiceway/sluicewaylaw19.ClientWrong" = some f) (hfn : Tryz.pinned.checked.prog.funcs[f]? = some fn) :
 true = Tryz.pinned.checked.prog.looks [] ∧ ∀ (j : Nat) t, fn.params[j]? = some t → Tryz.pinned.checked.prog.wantsStandIn t = false := by
 obtain rfl : f = 6 := Option.some.inj ((show Tryz.prog.funcNamed "sluiceway/sluicewaylaw19.ClientWrong" = some 6 by kernel_rfl).symm.trans hf) |>.symm
 obtain rfl : fn = Tryz.f6 := (Option.some.inj (Tryz.func6.symm.trans hfn)).symm
 refine ⟨by kernel_rfl, fun j t ht => ?_⟩
 rw [Tryz.params6] at ht
 exact (show ∀ t ∈ (#[3, 4] : Array TypeId), Tryz.prog.wantsStandIn t = false by decide +kernel) t (Array.mem_of_getElem? ht)
theorem clientWrong_card : Rows.ClientWrongCardSaid :=
 Claim7.holds_tied_plain_at .later [] _ _ _ _ clientWrong_said (fun _ h => by cases h) (by kernel_rfl) (fun _ h => by cases h) clientWrong_row_tie rfl ⟨rfl, rfl⟩ (by kernel_rfl) rfl clientWrong_plain (by kernel_rfl)
#print axioms clientWrong_card
end Go.Proofs.YthcobbfffjfboaaGreatDoor
