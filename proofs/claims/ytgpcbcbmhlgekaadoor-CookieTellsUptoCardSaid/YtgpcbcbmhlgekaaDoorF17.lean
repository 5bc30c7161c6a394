/- Cookie laws hold, whatever the input of bulk at most 1048576: a cookie lives up to its time, what was sealed is opened. -/
import Derived.Test.YtgpcbcbmhlgekaaDoorFB
import Derived.Test.YtgpcbcbmhlgekaaDoorLt
set_option linter.unusedVariables false
set_option linter.unusedSimpArgs false
set_option linter.unusedSectionVars false
namespace Go.Proofs.YtgpcbcbmhlgekaaDoor
open Go Abs Go.RowKit


theorem run_cookieTells {H : Type} {ds : List (DataW H)} : ∀ avs, RdArgs Tryd.prog Tryd.f7.params.toList ds avs → Rows.uptoBulkAll ds ≤ 1048576 → Tru (docall AA (run AA) 17 avs S0) := by
  intro avs h hw
  obtain ⟨_, hT⟩ := hT
  rw [Tryd.params7] at h
  obtain ⟨_, hC⟩ := hC
  obtain ⟨x0, _, _, rfl, k0, h0, h, hw⟩ := rb_term isBulkU hT h hw
  obtain ⟨x1, _, _, rfl, h1, h, hw⟩ := rb_ck isBulkU hT hC h hw
  obtain ⟨x2, _, _, rfl, k2, h2, h, hw⟩ := rb_term isBulkU hT h hw
  obtain ⟨x3, _, _, rfl, h3, h, hw⟩ := rb_int isBulkU Tryd.underlying3 h hw
  obtain rfl := ra_nil h
  exact ⟨_, law17 (by omega) (sm_of h1) (by omega)⟩
theorem reads_cookieTells (os : Os) {H : Type} (enc : TypeId × Value → H) : ∃ places, DataW.whole enc Tryd.prog ((World.doorLaid Tryd.prog 80 os).forCall (fun _ _ => 0) ⟨#[], #[.agg #[.int .i64 0, .string ⟨#[]⟩, .slice none 0 0], .agg #[.string ⟨#[]⟩, .string ⟨#[]⟩, .slice none 0 0, .int .i64 0, .string ⟨#[]⟩, .slice none 0 0, .int .i64 0], .agg #[.int .i64 0, .string ⟨#[]⟩, .slice none 0 0], .int .i64 0], []⟩).memory Tryd.f7.params.toList Rows.cookieTellsSpec.vars false (#[.agg #[.int .i64 0, .string ⟨#[]⟩, .slice none 0 0], .agg #[.string ⟨#[]⟩, .string ⟨#[]⟩, .slice none 0 0, .int .i64 0, .string ⟨#[]⟩, .slice none 0 0, .int .i64 0], .agg #[.int .i64 0, .string ⟨#[]⟩, .slice none 0 0], .int .i64 0] : Array Value).toList 8 = some ([.agg [.lit (.int .i64 0), .lit (.string []), .nil], .agg [.lit (.string []), .lit (.string []), .nil, .agg [.lit (.int .i64 0), .lit (.string []), .nil], .lit (.int .i64 0)], .agg [.lit (.int .i64 0), .lit (.string []), .nil], .lit (.int .i64 0)], [], places) :=
  ⟨[], by kernel_rfl⟩
set_option maxRecDepth 100000 in
theorem cookieTells_lifted (os : Os) (started : os.Started) (H : Type) (enc : TypeId × Value → H) (F : Stop.Interp) :
    ReturnsInHanded {} Tryd.checked os 7 .any ((Rows.OpenSpec.upto Rows.cookieTellsSpec).preRow enc Tryd.prog Tryd.f7 Rows.cookieTellsUptoRow.domain false Rows.cookieTellsUptoRow.laid) (((Rows.OpenSpec.upto Rows.cookieTellsSpec).at F).post enc Tryd.prog Tryd.f7 false true false false) := by
  obtain ⟨places, hx⟩ := reads_cookieTells os enc
  refine returnsInHanded_of_row (C := Tryd.checked) (s := (Rows.OpenSpec.upto Rows.cookieTellsSpec)) own started (by kernel_rfl) Tryd.func7
    (witness_row_atRef (enc := enc) (C := Tryd.checked) false (World.doorLaid Tryd.prog 80 os) #[.agg #[.int .i64 0, .string ⟨#[]⟩, .slice none 0 0], .agg #[.string ⟨#[]⟩, .string ⟨#[]⟩, .slice none 0 0, .int .i64 0, .string ⟨#[]⟩, .slice none 0 0, .int .i64 0], .agg #[.int .i64 0, .string ⟨#[]⟩, .slice none 0 0], .int .i64 0] rfl (by kernel_rfl) (by kernel_rfl) (by kernel_rfl)
      (OpenSpec.preRow_of_cond 8 hx (by kernel_rfl) (fun k hk => by cases hk; kernel_rfl) (by kernel_rfl) (door_met os _))) ?_
  intro W base args ds gs before hval hW _ hcond hz hL _ _
  have hgs : gs = [] := by
    obtain ⟨_, _, _, h2, _⟩ := hW
    exact (Go.ChangeShapes.trodVars_none h2).1
  subst hgs
  have hz := hcond _ rfl
  rw [List.append_nil] at hz
  have hz : Rows.uptoBulkAll ds ≤ 1048576 := of_decide_eq_true hz
  refine law_contractW (P := Tryd.prog) (fn := Tryd.f7) (s := Rows.cookieTellsSpec) (key := 17) (L := [3, 4, 9, 22, 24, 25, 60]) ok rfl lo pl (by rw [Tryd.params7]; intro t ht; revert t; decide +kernel) rfl (by kernel_rfl) rfl ?_ (glob_ok hL) ?_ hval hW
  · intro ds hl
    have hl : ds.length = 4 := hl
    match ds, hl with | [d0, d1, d2, d3], _ => exact ⟨rfl, rfl, rfl⟩
  · exact fun avs _ h => run_cookieTells avs h hz
theorem cookieTells_said : Rows.CookieTellsUptoSaid :=
  OpenClaim.holds_of_cond 7 Tryd.f7 rfl rfl rfl rfl rfl rfl rfl ⟨rfl, rfl, rfl, rfl, rfl⟩ rfl rfl rfl rfl rfl (by kernel_rfl) Tryd.func7 (by kernel_rfl)
    (of_decide_eq_true (by kernel_rfl)) (by unfold Func.isWrapper; first | (rw [if_pos (by decide +kernel)]; kernel_rfl) | (rw [if_neg (by decide +kernel)]; exact ⟨rfl, rfl⟩))
    (fun os started H enc _ F => by rw [OpenClaim.pre_eq_preRow]; exact cookieTells_lifted os started H enc F)
theorem cookieTells_plain (f : FuncId) (fn : Func) (hf : Tryd.pinned.checked.prog.funcNamed "sluiceway/sluicewaylaw14.CookieTells" = some f) (hfn : Tryd.pinned.checked.prog.funcs[f]? = some fn) :
    true = Tryd.pinned.checked.prog.looks [] ∧ ∀ (j : Nat) t, fn.params[j]? = some t → Tryd.pinned.checked.prog.wantsStandIn t = false := by
  obtain rfl : f = 7 := Option.some.inj ((show Tryd.prog.funcNamed "sluiceway/sluicewaylaw14.CookieTells" = some 7 by kernel_rfl).symm.trans hf) |>.symm
  obtain rfl : fn = Tryd.f7 := (Option.some.inj (Tryd.func7.symm.trans hfn)).symm
  refine ⟨by kernel_rfl, fun j t ht => ?_⟩
  rw [Tryd.params7] at ht
  exact (show ∀ t ∈ (#[24, 60, 24, 3] : Array TypeId), Tryd.prog.wantsStandIn t = false by decide +kernel) t (Array.mem_of_getElem? ht)
theorem cookieTells_card : Rows.CookieTellsUptoCardSaid :=
  Claim7.holds_tied_plain_at .later [] _ _ _ _ cookieTells_said (fun _ h => by cases h) (by kernel_rfl) (fun _ h => by cases h) cookieTellsUpto_row_tie rfl ⟨rfl, rfl⟩ (by kernel_rfl) rfl cookieTells_plain (by kernel_rfl)
#print axioms cookieTells_card
end Go.Proofs.YtgpcbcbmhlgekaaDoor
