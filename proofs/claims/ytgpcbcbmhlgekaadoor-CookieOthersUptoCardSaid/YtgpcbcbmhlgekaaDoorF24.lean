/- Cookie laws hold, whatever the input of bulk at most 1048576: a cookie lives up to its time, what was sealed is opened. -/
import Derived.Test.YtgpcbcbmhlgekaaDoorFB
import Derived.Test.YtgpcbcbmhlgekaaDoorLw
set_option linter.unusedVariables false
set_option linter.unusedSimpArgs false
set_option linter.unusedSectionVars false
namespace Go.Proofs.YtgpcbcbmhlgekaaDoor
open Go Abs Go.RowKit


theorem run_cookieOthers {H : Type} {ds : List (DataW H)} : ∀ avs, RdArgs Tryd.prog Tryd.f13.params.toList ds avs → Rows.uptoBulkAll ds ≤ 1048576 → Tru (docall AA (run AA) 24 avs S0) := by
  intro avs h hw
  obtain ⟨_, hT⟩ := hT
  rw [Tryd.params13] at h
  obtain ⟨_, hC⟩ := hC
  obtain ⟨x0, _, _, rfl, h0, h, hw⟩ := rb_ck isBulkU hT hC h hw
  obtain ⟨x1, _, _, rfl, h1, h, hw⟩ := rb_str isBulkU Tryd.underlying9 h hw
  obtain rfl := ra_nil h
  exact law24 (sm_of h0)
theorem reads_cookieOthers (os : Os) {H : Type} (enc : TypeId × Value → H) : ∃ places, DataW.whole enc Tryd.prog ((World.doorLaid Tryd.prog 80 os).forCall (fun _ _ => 0) ⟨#[], #[.agg #[.string ⟨#[]⟩, .string ⟨#[]⟩, .slice none 0 0, .int .i64 0, .string ⟨#[]⟩, .slice none 0 0, .int .i64 0], .string ⟨#[]⟩], []⟩).memory Tryd.f13.params.toList Rows.cookieOthersSpec.vars false (#[.agg #[.string ⟨#[]⟩, .string ⟨#[]⟩, .slice none 0 0, .int .i64 0, .string ⟨#[]⟩, .slice none 0 0, .int .i64 0], .string ⟨#[]⟩] : Array Value).toList 8 = some ([.agg [.lit (.string []), .lit (.string []), .nil, .agg [.lit (.int .i64 0), .lit (.string []), .nil], .lit (.int .i64 0)], .lit (.string [])], [], places) :=
  ⟨[], by kernel_rfl⟩
set_option maxRecDepth 100000 in
theorem cookieOthers_lifted (os : Os) (started : os.Started) (H : Type) (enc : TypeId × Value → H) (F : Stop.Interp) :
    ReturnsInHanded {} Tryd.checked os 13 .any ((Rows.OpenSpec.upto Rows.cookieOthersSpec).preRow enc Tryd.prog Tryd.f13 Rows.cookieOthersUptoRow.domain false Rows.cookieOthersUptoRow.laid) (((Rows.OpenSpec.upto Rows.cookieOthersSpec).at F).post enc Tryd.prog Tryd.f13 false true false false) := by
  obtain ⟨places, hx⟩ := reads_cookieOthers os enc
  refine returnsInHanded_of_row (C := Tryd.checked) (s := (Rows.OpenSpec.upto Rows.cookieOthersSpec)) own started (by kernel_rfl) Tryd.func13
    (witness_row_atRef (enc := enc) (C := Tryd.checked) false (World.doorLaid Tryd.prog 80 os) #[.agg #[.string ⟨#[]⟩, .string ⟨#[]⟩, .slice none 0 0, .int .i64 0, .string ⟨#[]⟩, .slice none 0 0, .int .i64 0], .string ⟨#[]⟩] rfl (by kernel_rfl) (by kernel_rfl) (by kernel_rfl)
      (OpenSpec.preRow_of_cond 8 hx (by kernel_rfl) (fun k hk => by cases hk; kernel_rfl) (by kernel_rfl) (door_met os _))) ?_
  intro W base args ds gs before hval hW _ hcond hz hL _ _
  have hgs : gs = [] := by
    obtain ⟨_, _, _, h2, _⟩ := hW
    exact (Go.ChangeShapes.trodVars_none h2).1
  subst hgs
  have hz := hcond _ rfl
  rw [List.append_nil] at hz
  have hz : Rows.uptoBulkAll ds ≤ 1048576 := of_decide_eq_true hz
  refine law_contractW (P := Tryd.prog) (fn := Tryd.f13) (s := Rows.cookieOthersSpec) (key := 24) (L := [3, 4, 9, 22, 24, 25, 60]) ok rfl lo pl (by rw [Tryd.params13]; intro t ht; revert t; decide +kernel) rfl (by kernel_rfl) rfl ?_ (glob_ok hL) ?_ hval hW
  · intro ds hl
    have hl : ds.length = 2 := hl
    match ds, hl with | [d0, d1], _ => exact ⟨rfl, rfl, rfl⟩
  · exact fun avs _ h => run_cookieOthers avs h hz
theorem cookieOthers_said : Rows.CookieOthersUptoSaid :=
  OpenClaim.holds_of_cond 13 Tryd.f13 rfl rfl rfl rfl rfl rfl rfl ⟨rfl, rfl, rfl, rfl, rfl⟩ rfl rfl rfl rfl rfl (by kernel_rfl) Tryd.func13 (by kernel_rfl)
    (of_decide_eq_true (by kernel_rfl)) (by unfold Func.isWrapper; first | (rw [if_pos (by decide +kernel)]; kernel_rfl) | (rw [if_neg (by decide +kernel)]; exact ⟨rfl, rfl⟩))
    (fun os started H enc _ F => by rw [OpenClaim.pre_eq_preRow]; exact cookieOthers_lifted os started H enc F)
theorem cookieOthers_plain (f : FuncId) (fn : Func) (hf : Tryd.pinned.checked.prog.funcNamed "sluiceway/sluicewaylaw14.CookieOthers" = some f) (hfn : Tryd.pinned.checked.prog.funcs[f]? = some fn) :
    true = Tryd.pinned.checked.prog.looks [] ∧ ∀ (j : Nat) t, fn.params[j]? = some t → Tryd.pinned.checked.prog.wantsStandIn t = false := by
  obtain rfl : f = 13 := Option.some.inj ((show Tryd.prog.funcNamed "sluiceway/sluicewaylaw14.CookieOthers" = some 13 by kernel_rfl).symm.trans hf) |>.symm
  obtain rfl : fn = Tryd.f13 := (Option.some.inj (Tryd.func13.symm.trans hfn)).symm
  refine ⟨by kernel_rfl, fun j t ht => ?_⟩
  rw [Tryd.params13] at ht
  exact (show ∀ t ∈ (#[60, 9] : Array TypeId), Tryd.prog.wantsStandIn t = false by decide +kernel) t (Array.mem_of_getElem? ht)
theorem cookieOthers_card : Rows.CookieOthersUptoCardSaid :=
  Claim7.holds_tied_plain_at .later [] _ _ _ _ cookieOthers_said (fun _ h => by cases h) (by kernel_rfl) (fun _ h => by cases h) cookieOthersUpto_row_tie rfl ⟨rfl, rfl⟩ (by kernel_rfl) rfl cookieOthers_plain (by kernel_rfl)
#print axioms cookieOthers_card
end Go.Proofs.YtgpcbcbmhlgekaaDoor
