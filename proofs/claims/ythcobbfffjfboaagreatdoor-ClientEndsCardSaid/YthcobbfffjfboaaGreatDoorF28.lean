/- Client laws hold, whatever the input. -/
import Derived.Test.YthcobbfffjfboaaGreatDoorFB
import Derived.Test.YthcobbfffjfboaaGreatDoorG8
set_option linter.unusedVariables false
set_option linter.unusedSimpArgs false
set_option linter.unusedSectionVars false
namespace Go.Proofs.YthcobbfffjfboaaGreatDoor
open Go Abs Go.RowKit
theorem run_clientEnds {H : Type} {ds : List (DataW H)} : ∀ avs, RdArgs Tryz.prog Tryz.f4.params.toList ds avs → Rch Tryz.prog reachBytes Tryz.f4.params.toList ds → Tru (docall AA (run AA) 28 avs S0) := by
 intro avs h hw
 obtain ⟨_, hT⟩ := hT
 rw [Tryz.params4] at h hw
 obtain ⟨x0, _, _, rfl, h0, h, hw⟩ := ra_int Tryz.underlying3 h hw
 obtain ⟨x1, _, _, rfl, h1, h, hw⟩ := ra_int Tryz.underlying3 h hw
 obtain ⟨x2, _, _, rfl, h2, l2, h, hw⟩ := ra_ints Tryz.underlying43 Tryz.underlying3 (by kernel_rfl) (by kernel_rfl) h hw
 obtain ⟨x3, _, _, rfl, h3, h, hw⟩ := ra_int Tryz.underlying3 h hw
 obtain rfl := ra_nil h
 exact law28 (Nat.le_refl _)
theorem reads_clientEnds (os : Os) {H : Type} (enc : TypeId × Value → H) : ∃ places, DataW.whole enc Tryz.prog ((World.doorLaid Tryz.prog 80 os).forCall (fun _ _ => 0) ⟨#[], #[.int .i64 0, .int .i64 0, .slice none 0 0, .int .i64 0], []⟩).memory Tryz.f4.params.toList Rows.clientEndsSpec.vars false (#[.int .i64 0, .int .i64 0, .slice none 0 0, .int .i64 0] : Array Value).toList 8 = some ([.lit (.int .i64 0), .lit (.int .i64 0), .nil, .lit (.int .i64 0)], [], places) :=
 ⟨[], by kernel_rfl⟩
set_option maxRecDepth 100000 in
theorem clientEnds_lifted (os : Os) (started : os.Started) (H : Type) (enc : TypeId × Value → H) (F : Stop.Interp) :
 ReturnsInHanded {} Tryz.checked os 4 .any ((OpenSpec.ofChange Rows.clientEndsSpec).preRow enc Tryz.prog Tryz.f4 Rows.clientEndsRow.domain false Rows.clientEndsRow.laid) (((OpenSpec.ofChange Rows.clientEndsSpec).at F).post enc Tryz.prog Tryz.f4 false true false false) := by
 obtain ⟨places, hx⟩ := reads_clientEnds os enc
 refine returnsInHanded_of_row (C := Tryz.checked) (s := (OpenSpec.ofChange Rows.clientEndsSpec)) own started (by kernel_rfl) Tryz.func4
  (witness_row_atRef (enc := enc) (C := Tryz.checked) false (World.doorLaid Tryz.prog 80 os) #[.int .i64 0, .int .i64 0, .slice none 0 0, .int .i64 0] rfl (by kernel_rfl) (by kernel_rfl) (by kernel_rfl)
   (OpenSpec.preRow_of_cond 8 hx (by kernel_rfl) (fun k hk => by cases hk) (by kernel_rfl) (door_met os _))) ?_
 intro W base args ds gs before hval hW _ hcond hz hL _ _
 have hz : (DataW.weightsEach Tryz.prog (Tryz.f4.params.toList ++ []) (ds ++ gs)).all (· ≤ reachBytes) = true := hz
 have hgs : gs = [] := by
  obtain ⟨_, _, _, h2, _⟩ := hW
  exact (Go.ChangeShapes.trodVars_none h2).1
 subst hgs
 rw [List.append_nil, List.append_nil] at hz
 refine law_contractW (P := Tryz.prog) (fn := Tryz.f4) (s := Rows.clientEndsSpec) (key := 28) (L := [3, 4, 9, 33, 35, 43]) ok rfl lo pl (by rw [Tryz.params4]; intro t ht; revert t; decide +kernel) rfl (by kernel_rfl) rfl ?_ (glob_ok hL) ?_ hval hW
 ·intro ds hl
  have hl : ds.length = 4 := hl
  match ds, hl with | [d0, d1, d2, d3], _ => exact ⟨rfl, rfl, rfl⟩
 ·exact fun avs _ h => run_clientEnds avs h hz
theorem clientEnds_said : Rows.ClientEndsSaid :=
 OpenClaim.holds_of_cond 4 Tryz.f4 rfl rfl rfl rfl rfl rfl rfl ⟨rfl, rfl, rfl, rfl, rfl⟩ rfl rfl rfl rfl rfl (by kernel_rfl) Tryz.func4 (by kernel_rfl)
  (of_decide_eq_true (by kernel_rfl)) (by unfold Func.isWrapper; first | (rw [if_pos (by decide +kernel)]; kernel_rfl) | (rw [if_neg (by decide +kernel)]; exact ⟨rfl, rfl⟩))
  (fun os started H enc _ F => by rw [OpenClaim.pre_eq_preRow]; exact clientEnds_lifted os started H enc F)
theorem clientEnds_plain (f : FuncId) (fn : Func) (hf : Tryz.pinned.checked.prog.funcNamed "sluiceway/sluicewaylaw19.ClientEnds" = some f) (hfn : Tryz.pinned.checked.prog.funcs[f]? = some fn) :
 true = Tryz.pinned.checked.prog.looks [] ∧ ∀ (j : Nat) t, fn.params[j]? = some t → Tryz.pinned.checked.prog.wantsStandIn t = false := by
 obtain rfl : f = 4 := Option.some.inj ((show Tryz.prog.funcNamed "sluiceway/sluicewaylaw19.ClientEnds" = some 4 by kernel_rfl).symm.trans hf) |>.symm
 obtain rfl : fn = Tryz.f4 := (Option.some.inj (Tryz.func4.symm.trans hfn)).symm
 refine ⟨by kernel_rfl, fun j t ht => ?_⟩
 rw [Tryz.params4] at ht
 exact (show ∀ t ∈ (#[3, 3, 43, 3] : Array TypeId), Tryz.prog.wantsStandIn t = false by decide +kernel) t (Array.mem_of_getElem? ht)
theorem clientEnds_card : Rows.ClientEndsCardSaid :=
 Claim7.holds_tied_plain_at .later [] _ _ _ _ clientEnds_said (fun _ h => by cases h) (by kernel_rfl) (fun _ h => by cases h) clientEnds_row_tie rfl ⟨rfl, rfl⟩ (by kernel_rfl) rfl clientEnds_plain (by kernel_rfl)
#print axioms clientEnds_card
end Go.Proofs.YthcobbfffjfboaaGreatDoor
