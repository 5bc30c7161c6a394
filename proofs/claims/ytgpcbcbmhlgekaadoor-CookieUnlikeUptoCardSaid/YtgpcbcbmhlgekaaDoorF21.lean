/- Cookie laws hold, whatever the input of bulk at most 1048576: a cookie lives up to its time, what was sealed is opened. -/
import Derived.Test.YtgpcbcbmhlgekaaDoorFB
import Derived.Test.YtgpcbcbmhlgekaaDoorLt
set_option linter.unusedVariables false
set_option linter.unusedSimpArgs false
set_option linter.unusedSectionVars false
namespace Go.Proofs.YtgpcbcbmhlgekaaDoor
open Go Abs Go.RowKit


theorem run_cookieUnlike {H : Type} {ds : List (DataW H)} : ∀ avs, RdArgs Tryd.prog Tryd.f10.params.toList ds avs → Rows.uptoBulkAll ds ≤ 1048576 → Tru (docall AA (run AA) 21 avs S0) := by
  intro avs h hw
  obtain ⟨_, hT⟩ := hT
  rw [Tryd.params10] at h
  obtain ⟨_, hC⟩ := hC
  obtain ⟨x0, _, _, rfl, h0, h, hw⟩ := rb_ck isBulkU hT hC h hw
  obtain ⟨x1, _, _, rfl, h1, h, hw⟩ := rb_ck isBulkU hT hC h hw
  obtain ⟨x2, _, _, rfl, k2, h2, h, hw⟩ := rb_term isBulkU hT h hw
  obtain ⟨x3, _, _, rfl, k3, h3, h, hw⟩ := rb_term isBulkU hT h hw
  obtain rfl := ra_nil h
  exact ⟨_, law21 (sm_of h0) (sm_of h1) (by omega) (by omega)⟩
theorem reads_cookieUnlike (os : Os) {H : Type} (enc : TypeId × Value → H) : ∃ places, DataW.whole enc Tryd.prog ((World.doorLaid Tryd.prog 80 os).forCall (fun _ _ => 0) ⟨#[], #[.agg #[.string ⟨#[]⟩, .string ⟨#[]⟩, .slice none 0 0, .int .i64 0, .string ⟨#[]⟩, .slice none 0 0, .int .i64 0], .agg #[.string ⟨#[]⟩, .string ⟨#[]⟩, .slice none 0 0, .int .i64 0, .string ⟨#[]⟩, .slice none 0 0, .int .i64 0], .agg #[.int .i64 0, .string ⟨#[]⟩, .slice none 0 0], .agg #[.int .i64 0, .string ⟨#[]⟩, .slice none 0 0]], []⟩).memory Tryd.f10.params.toList Rows.cookieUnlikeSpec.vars false (#[.agg #[.string ⟨#[]⟩, .string ⟨#[]⟩, .slice none 0 0, .int .i64 0, .string ⟨#[]⟩, .slice none 0 0, .int .i64 0], .agg #[.string ⟨#[]⟩, .string ⟨#[]⟩, .slice none 0 0, .int .i64 0, .string ⟨#[]⟩, .slice none 0 0, .int .i64 0], .agg #[.int .i64 0, .string ⟨#[]⟩, .slice none 0 0], .agg #[.int .i64 0, .string ⟨#[]⟩, .slice none 0 0]] : Array Value).toList 8 = some ([.agg [.lit (.string []), .lit (.string []), .nil, .agg [.lit (.int .i64 0), .lit (.string []), .nil], .lit (.int .i64 0)], .agg [.lit (.string []), .lit (.string []), .nil, .agg [.lit (.int .i64 0), .lit (.string []), .nil], .lit (.int .i64 0)], .agg [.lit (.int .i64 0), .lit (.string []), .nil], .agg [.lit (.int .i64 0), .lit (.string []), .nil]], [], places) :=
  ⟨[], by kernel_rfl⟩
set_option maxRecDepth 100000 in
theorem cookieUnlike_lifted (os : Os) (started : os.Started) (H : Type) (enc : TypeId × Value → H) (F : Stop.Interp) :
    ReturnsInHanded {} Tryd.checked os 10 .any ((Rows.OpenSpec.upto Rows.cookieUnlikeSpec).preRow enc Tryd.prog Tryd.f10 Rows.cookieUnlikeUptoRow.domain false Rows.cookieUnlikeUptoRow.laid) (((Rows.OpenSpec.upto Rows.cookieUnlikeSpec).at F).post enc Tryd.prog Tryd.f10 false true false false) := by
  obtain ⟨places, hx⟩ := reads_cookieUnlike os enc
  refine returnsInHanded_of_row (C := Tryd.checked) (s := (Rows.OpenSpec.upto Rows.cookieUnlikeSpec)) own started (by kernel_rfl) Tryd.func10
    (witness_row_atRef (enc := enc) (C := Tryd.checked) false (World.doorLaid Tryd.prog 80 os) #[.agg #[.string ⟨#[]⟩, .string ⟨#[]⟩, .slice none 0 0, .int .i64 0, .string ⟨#[]⟩, .slice none 0 0, .int .i64 0], .agg #[.string ⟨#[]⟩, .string ⟨#[]⟩, .slice none 0 0, .int .i64 0, .string ⟨#[]⟩, .slice none 0 0, .int .i64 0], .agg #[.int .i64 0, .string ⟨#[]⟩, .slice none 0 0], .agg #[.int .i64 0, .string ⟨#[]⟩, .slice none 0 0]] rfl (by kernel_rfl) (by kernel_rfl) (by kernel_rfl)
      (OpenSpec.preRow_of_cond 8 hx (by kernel_rfl) (fun k hk => by cases hk; kernel_rfl) (by kernel_rfl) (door_met os _))) ?_
  intro W base args ds gs before hval hW _ hcond hz hL _ _
  have hgs : gs = [] := by
    obtain ⟨_, _, _, h2, _⟩ := hW
    exact (Go.ChangeShapes.trodVars_none h2).1
  subst hgs
  have hz := hcond _ rfl
  rw [List.append_nil] at hz
  have hz : Rows.uptoBulkAll ds ≤ 1048576 := of_decide_eq_true hz
  refine law_contractW (P := Tryd.prog) (fn := Tryd.f10) (s := Rows.cookieUnlikeSpec) (key := 21) (L := [3, 4, 9, 22, 24, 25, 60]) ok rfl lo pl (by rw [Tryd.params10]; intro t ht; revert t; decide +kernel) rfl (by kernel_rfl) rfl ?_ (glob_ok hL) ?_ hval hW
  · intro ds hl
    have hl : ds.length = 4 := hl
    match ds, hl with | [d0, d1, d2, d3], _ => exact ⟨rfl, rfl, rfl⟩
  · exact fun avs _ h => run_cookieUnlike avs h hz
theorem cookieUnlike_said : Rows.CookieUnlikeUptoSaid :=
  OpenClaim.holds_of_cond 10 Tryd.f10 rfl rfl rfl rfl rfl rfl rfl ⟨rfl, rfl, rfl, rfl, rfl⟩ rfl rfl rfl rfl rfl (by kernel_rfl) Tryd.func10 (by kernel_rfl)
    (of_decide_eq_true (by kernel_rfl)) (by unfold Func.isWrapper; first | (rw [if_pos (by decide +kernel)]; kernel_rfl) | (rw [if_neg (by decide +kernel)]; exact ⟨rfl, rfl⟩))
    (fun os started H enc _ F => by rw [OpenClaim.pre_eq_preRow]; exact cookieUnlike_lifted os started H enc F)
theorem cookieUnlike_plain (f : FuncId) (fn : Func) (hf : Tryd.pinned.checked.prog.funcNamed "sluiceway/sluicewaylaw14.CookieUnlike" = some f) (hfn : Tryd.pinned.checked.prog.funcs[f]? = some fn) :
    true = Tryd.pinned.checked.prog.looks [] ∧ ∀ (j : Nat) t, fn.params[j]? = some t → Tryd.pinned.checked.prog.wantsStandIn t = false := by
  obtain rfl : f = 10 := Option.some.inj ((show Tryd.prog.funcNamed "sluiceway/sluicewaylaw14.CookieUnlike" = some 10 by kernel_rfl).symm.trans hf) |>.symm
  obtain rfl : fn = Tryd.f10 := (Option.some.inj (Tryd.func10.symm.trans hfn)).symm
  refine ⟨by kernel_rfl, fun j t ht => ?_⟩
  rw [Tryd.params10] at ht
  exact (show ∀ t ∈ (#[60, 60, 24, 24] : Array TypeId), Tryd.prog.wantsStandIn t = false by decide +kernel) t (Array.mem_of_getElem? ht)
theorem cookieUnlike_card : Rows.CookieUnlikeUptoCardSaid :=
  Claim7.holds_tied_plain_at .later [] _ _ _ _ cookieUnlike_said (fun _ h => by cases h) (by kernel_rfl) (fun _ h => by cases h) cookieUnlikeUpto_row_tie rfl ⟨rfl, rfl⟩ (by kernel_rfl) rfl cookieUnlike_plain (by kernel_rfl)
#print axioms cookieUnlike_card
end Go.Proofs.YtgpcbcbmhlgekaaDoor
