/- Client laws hold, whatever the input. -/
import Derived.Test.YthcobbfffjfboaaGreatDoorFB
import Derived.Test.YthcobbfffjfboaaGreatDoorG9
set_option linter.unusedVariables false
set_option linter.unusedSimpArgs false
set_option linter.unusedSectionVars false
namespace Go.Proofs.YthcobbfffjfboaaGreatDoor
open Go Abs Go.RowKit
theorem run_clientPlays {H:Type} {ds:List (DataW H)}:∀avs,RdArgs Tryz.prog Tryz.f3.params.toList ds avs→Rows.uptoBulkAll ds≤1048576→Tru (docall AA (run AA) 27 avs S0):=by
 intro avs h hw
 obtain ⟨_,hT⟩:=hT
 rw [Tryz.params3]at h
 obtain ⟨_,hP⟩:=hP
 obtain ⟨x0,_,_,rfl,h0,h,hw⟩:=rb_int isBulkU Tryz.underlying3 h hw
 obtain ⟨x1,_,_,rfl,h1,h,hw⟩:=rb_steps isBulkU hT hP h hw
 obtain rfl:=ra_nil h
 exact law27 (Nat.le_refl _) (fun p hp=>Nat.le_trans (h1 p hp) (by omega))
theorem reads_clientPlays (os:Os) {H:Type} (enc:TypeId×Value→H):∃places,DataW.whole enc Tryz.prog ((World.doorLaid Tryz.prog 80 os).forCall (fun _ _=>0) ⟨#[],#[.int .i64 0,.slice none 0 0],[]⟩).memory Tryz.f3.params.toList Rows.clientPlaysSpec.vars false (#[.int .i64 0,.slice none 0 0]:Array Value).toList 8=some ([.lit (.int .i64 0),.nil],[],places):=
 ⟨[],by kernel_rfl⟩
set_option maxRecDepth 100000 in
theorem clientPlays_lifted (os:Os) (started:os.Started) (H:Type) (enc:TypeId×Value→H) (F:Stop.Interp):
 ReturnsInHanded {} Tryz.checked os 3 .any ((Rows.OpenSpec.upto Rows.clientPlaysSpec).preRow enc Tryz.prog Tryz.f3 Rows.clientPlaysUptoRow.domain false Rows.clientPlaysUptoRow.laid) (((Rows.OpenSpec.upto Rows.clientPlaysSpec).at F).post enc Tryz.prog Tryz.f3 false true false false):=by
 obtain ⟨places,hx⟩:=reads_clientPlays os enc
 refine returnsInHanded_of_row (C:=Tryz.checked) (s:=(Rows.OpenSpec.upto Rows.clientPlaysSpec)) own started (by kernel_rfl) Tryz.func3
  (witness_row_atRef (enc:=enc) (C:=Tryz.checked) false (World.doorLaid Tryz.prog 80 os) #[.int .i64 0,.slice none 0 0] rfl (by kernel_rfl) (by kernel_rfl) (by kernel_rfl)
   (OpenSpec.preRow_of_cond 8 hx (by kernel_rfl) (fun k hk=>by cases hk;kernel_rfl) (by kernel_rfl) (door_met os _))) ?_
 intro W base args ds gs before hval hW _ hcond hz hL _ _
 have hgs:gs=[]:=by
  obtain ⟨_,_,_,h2,_⟩:=hW
  exact (Go.ChangeShapes.trodVars_none h2).1
 subst hgs
 have hz:=hcond _ rfl
 rw [List.append_nil]at hz
 have hz:Rows.uptoBulkAll ds≤1048576:=of_decide_eq_true hz
 refine law_contractW (P:=Tryz.prog) (fn:=Tryz.f3) (s:=Rows.clientPlaysSpec) (key:=27) (L:=[3,9,22,33,35,40]) ok rfl lo pl (by rw [Tryz.params3];intro t ht;revert t;decide+kernel) rfl (by kernel_rfl) rfl ?_ (glob_ok hL) ?_ hval hW
 ·intro ds hl
  have hl:ds.length=2:=hl
  match ds,hl with|[d0,d1],_=>exact ⟨rfl,rfl,rfl⟩
 ·exact fun avs _ h=>run_clientPlays avs h hz
theorem clientPlays_said:Rows.ClientPlaysUptoSaid:=
 OpenClaim.holds_of_cond 3 Tryz.f3 rfl rfl rfl rfl rfl rfl rfl ⟨rfl,rfl,rfl,rfl,rfl⟩ rfl rfl rfl rfl rfl (by kernel_rfl) Tryz.func3 (by kernel_rfl)
  (of_decide_eq_true (by kernel_rfl)) (by unfold Func.isWrapper;first|(rw [if_pos (by decide+kernel)];kernel_rfl)|(rw [if_neg (by decide+kernel)];exact ⟨rfl,rfl⟩))
  (fun os started H enc _ F=>by rw [OpenClaim.pre_eq_preRow];exact clientPlays_lifted os started H enc F)
theorem clientPlays_plain (f:FuncId) (fn:Func) (hf:Tryz.pinned.checked.prog.funcNamed "sluiceway/sluicewaylaw19.ClientPlays"=some f) (hfn:Tryz.pinned.checked.prog.funcs[f]?=some fn):
 true=Tryz.pinned.checked.prog.looks []∧∀(j:Nat) t,fn.params[j]?=some t→Tryz.pinned.checked.prog.wantsStandIn t=false:=by
 obtain rfl:f=3:=Option.some.inj ((show Tryz.prog.funcNamed "sluiceway/sluicewaylaw19.ClientPlays"=some 3 by kernel_rfl).symm.trans hf)|>.symm
 obtain rfl:fn=Tryz.f3:=(Option.some.inj (Tryz.func3.symm.trans hfn)).symm
 refine ⟨by kernel_rfl,fun j t ht=>?_⟩
 rw [Tryz.params3]at ht
 exact (show ∀t∈(#[3,22]:Array TypeId),Tryz.prog.wantsStandIn t=false by decide+kernel) t (Array.mem_of_getElem? ht)
theorem clientPlays_card:Rows.ClientPlaysUptoCardSaid:=
 Claim7.holds_tied_plain_at .later [] _ _ _ _ clientPlays_said (fun _ h=>by cases h) (by kernel_rfl) (fun _ h=>by cases h) clientPlaysUpto_row_tie rfl ⟨rfl,rfl⟩ (by kernel_rfl) rfl clientPlays_plain (by kernel_rfl)
#print axioms clientPlays_card
end Go.Proofs.YthcobbfffjfboaaGreatDoor
