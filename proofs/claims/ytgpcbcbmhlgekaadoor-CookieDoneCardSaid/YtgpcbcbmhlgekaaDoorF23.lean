/- CookieDone holds, whatever the input: what was done is kept in order. -/
import Derived.Test.YtgpcbcbmhlgekaaDoorFB
import Derived.Test.YtgpcbcbmhlgekaaDoorLw
set_option linter.unusedVariables false
set_option linter.unusedSimpArgs false
set_option linter.unusedSectionVars false
namespace Go.Proofs.YtgpcbcbmhlgekaaDoor
open Go Abs Go.RowKit


theorem run_cookieDone {H : Type} {ds : List (DataW H)} : ∀ avs, RdArgs Tryd.prog Tryd.f12.params.toList ds avs → Rch Tryd.prog reachBytes Tryd.f12.params.toList ds → Tru (docall AA (run AA) 23 avs S0) := by
  intro avs h hw
  obtain ⟨_, hT⟩ := hT
  rw [Tryd.params12] at h hw
  obtain ⟨x0, _, _, rfl, h0, l0, h, hw⟩ := ra_strs Tryd.underlying25 Tryd.underlying9 (by kernel_rfl) (by kernel_rfl) h hw
  obtain ⟨x1, _, _, rfl, h1, h, hw⟩ := ra_str Tryd.underlying9 h hw
  obtain ⟨x2, _, _, rfl, h2, h, hw⟩ := ra_int Tryd.underlying3 h hw
  obtain rfl := ra_nil h
  exact law23 (Nat.le_refl _) h2 (by have := rb; omega) (fun s hs => by have := h0 s hs; have := rb; omega)
theorem reads_cookieDone (os : Os) {H : Type} (enc : TypeId × Value → H) : ∃ places, DataW.whole enc Tryd.prog ((World.doorLaid Tryd.prog 80 os).forCall (fun _ _ => 0) ⟨#[], #[.slice none 0 0, .string ⟨#[]⟩, .int .i64 0], []⟩).memory Tryd.f12.params.toList Rows.cookieDoneSpec.vars false (#[.slice none 0 0, .string ⟨#[]⟩, .int .i64 0] : Array Value).toList 8 = some ([.nil, .lit (.string []), .lit (.int .i64 0)], [], places) :=
  ⟨[], by kernel_rfl⟩
set_option maxRecDepth 100000 in
theorem cookieDone_lifted (os : Os) (started : os.Started) (H : Type) (enc : TypeId × Value → H) (F : Stop.Interp) :
    ReturnsInHanded {} Tryd.checked os 12 .any ((OpenSpec.ofChange Rows.cookieDoneSpec).preRow enc Tryd.prog Tryd.f12 Rows.cookieDoneRow.domain false Rows.cookieDoneRow.laid) (((OpenSpec.ofChange Rows.cookieDoneSpec).at F).post enc Tryd.prog Tryd.f12 false true false false) := by
  obtain ⟨places, hx⟩ := reads_cookieDone os enc
  refine returnsInHanded_of_row (C := Tryd.checked) (s := (OpenSpec.ofChange Rows.cookieDoneSpec)) own started (by kernel_rfl) Tryd.func12
    (witness_row_atRef (enc := enc) (C := Tryd.checked) false (World.doorLaid Tryd.prog 80 os) #[.slice none 0 0, .string ⟨#[]⟩, .int .i64 0] rfl (by kernel_rfl) (by kernel_rfl) (by kernel_rfl)
      (OpenSpec.preRow_of_cond 8 hx (by kernel_rfl) (fun k hk => by cases hk) (by kernel_rfl) (door_met os _))) ?_
  intro W base args ds gs before hval hW _ hcond hz hL _ _
  have hz : (DataW.weightsEach Tryd.prog (Tryd.f12.params.toList ++ []) (ds ++ gs)).all (· ≤ reachBytes) = true := hz
  have hgs : gs = [] := by
    obtain ⟨_, _, _, h2, _⟩ := hW
    exact (Go.ChangeShapes.trodVars_none h2).1
  subst hgs
  rw [List.append_nil, List.append_nil] at hz
  refine law_contractW (P := Tryd.prog) (fn := Tryd.f12) (s := Rows.cookieDoneSpec) (key := 23) (L := [3, 4, 9, 22, 24, 25]) ok rfl lo pl (by rw [Tryd.params12]; intro t ht; revert t; decide +kernel) rfl (by kernel_rfl) rfl ?_ (glob_ok hL) ?_ hval hW
  · intro ds hl
    have hl : ds.length = 3 := hl
    match ds, hl with | [d0, d1, d2], _ => exact ⟨rfl, rfl, rfl⟩
  · exact fun avs _ h => run_cookieDone avs h hz
theorem cookieDone_said : Rows.CookieDoneSaid :=
  OpenClaim.holds_of_cond 12 Tryd.f12 rfl rfl rfl rfl rfl rfl rfl ⟨rfl, rfl, rfl, rfl, rfl⟩ rfl rfl rfl rfl rfl (by kernel_rfl) Tryd.func12 (by kernel_rfl)
    (of_decide_eq_true (by kernel_rfl)) (by unfold Func.isWrapper; first | (rw [if_pos (by decide +kernel)]; kernel_rfl) | (rw [if_neg (by decide +kernel)]; exact ⟨rfl, rfl⟩))
    (fun os started H enc _ F => by rw [OpenClaim.pre_eq_preRow]; exact cookieDone_lifted os started H enc F)
theorem cookieDone_plain (f : FuncId) (fn : Func) (hf : Tryd.pinned.checked.prog.funcNamed "sluiceway/sluicewaylaw14.CookieDone" = some f) (hfn : Tryd.pinned.checked.prog.funcs[f]? = some fn) :
    true = Tryd.pinned.checked.prog.looks [] ∧ ∀ (j : Nat) t, fn.params[j]? = some t → Tryd.pinned.checked.prog.wantsStandIn t = false := by
  obtain rfl : f = 12 := Option.some.inj ((show Tryd.prog.funcNamed "sluiceway/sluicewaylaw14.CookieDone" = some 12 by kernel_rfl).symm.trans hf) |>.symm
  obtain rfl : fn = Tryd.f12 := (Option.some.inj (Tryd.func12.symm.trans hfn)).symm
  refine ⟨by kernel_rfl, fun j t ht => ?_⟩
  rw [Tryd.params12] at ht
  exact (show ∀ t ∈ (#[25, 9, 3] : Array TypeId), Tryd.prog.wantsStandIn t = false by decide +kernel) t (Array.mem_of_getElem? ht)
theorem cookieDone_card : Rows.CookieDoneCardSaid :=
  Claim7.holds_tied_plain_at .later [] _ _ _ _ cookieDone_said (fun _ h => by cases h) (by kernel_rfl) (fun _ h => by cases h) cookieDone_row_tie rfl ⟨rfl, rfl⟩ (by kernel_rfl) rfl cookieDone_plain (by kernel_rfl)
#print axioms cookieDone_card
end Go.Proofs.YtgpcbcbmhlgekaaDoor
