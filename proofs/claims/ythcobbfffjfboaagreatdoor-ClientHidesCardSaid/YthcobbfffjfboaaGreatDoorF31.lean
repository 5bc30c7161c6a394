/- Client laws hold, whatever the input. -/
import Derived.Test.YthcobbfffjfboaaGreatDoorFB
import Derived.Test.YthcobbfffjfboaaGreatDoorG9
set_option linter.unusedVariables false
set_option linter.unusedSimpArgs false
set_option linter.unusedSectionVars false
namespace Go.Proofs.YthcobbfffjfboaaGreatDoor
open Go Abs Go.RowKit
theorem zG7 {H:Type} {ds:List (DataW H)}:∀avs,vE Tryz.prog Tryz.f7.params.toList ds avs -> Rch Tryz.prog reachBytes Tryz.f7.params.toList ds -> Tru (yn AA (run AA) 31 avs S0):=by
 intro avs h hw;obtain ⟨_,hT⟩:=hT;rw [Tryz.params7]at h hw;obtain ⟨x0,_,_,rfl,h0,h,hw⟩:=zHt Tryz.underlying3 h hw;obtain ⟨x1,_,_,rfl,h1,h,hw⟩:=zA7 Tryz.underlying9 h hw;obtain rfl:=zz1 h;exact zv7 (Nat.le_refl _)
theorem zuB (os:Os) {H:Type} (enc:TypeId×Value -> H):∃places,DataW.whole enc Tryz.prog ((World.doorLaid Tryz.prog 80 os).forCall (fun _ _=>0) ⟨#[],#[.int .i64 0,.string ⟨#[]⟩],[]⟩).memory Tryz.f7.params.toList Rows.clientHidesSpec.vars false (#[.int .i64 0,.string ⟨#[]⟩]:Array Value).toList 8=some ([.lit (.int .i64 0),.lit (.string [])],[],places):=
 ⟨[],by kernel_rfl⟩
set_option maxRecDepth 100000 in
theorem zzU (os:Os) (started:os.Started) (H:Type) (enc:TypeId×Value -> H) (F:Stop.Interp):
 ReturnsInHanded {} Tryz.checked os 7 .any ((OpenSpec.ofChange Rows.clientHidesSpec).preRow enc Tryz.prog Tryz.f7 Rows.clientHidesRow.domain false Rows.clientHidesRow.laid) (((OpenSpec.ofChange Rows.clientHidesSpec).at F).post enc Tryz.prog Tryz.f7 false true false false):=by
 obtain ⟨places,hx⟩:=zuB os enc;refine returnsInHanded_of_row (C:=Tryz.checked) (s:=(OpenSpec.ofChange Rows.clientHidesSpec)) own started (by kernel_rfl) Tryz.func7
  (witness_row_atRef (enc:=enc) (C:=Tryz.checked) false (World.doorLaid Tryz.prog 80 os) #[.int .i64 0,.string ⟨#[]⟩] rfl (by kernel_rfl) (by kernel_rfl) (by kernel_rfl)
   (OpenSpec.preRow_of_cond 8 hx (by kernel_rfl) (fun k hk=>by cases hk) (by kernel_rfl) (zDk os _))) ?_
 intro W base args ds gs before hval hW _ hcond hz hL _ _;have hz:(DataW.weightsEach Tryz.prog (Tryz.f7.params.toList++[]) (ds++gs)).all (· <=reachBytes)=true:=hz;have hgs:gs=[]:=by
  obtain ⟨_,_,_,h2,_⟩:=hW;exact (Go.ChangeShapes.trodVars_none h2).1
 subst hgs;rw [List.append_nil,List.append_nil]at hz;refine zxi (P:=Tryz.prog) (fn:=Tryz.f7) (s:=Rows.clientHidesSpec) (key:=31) (L:=[3,4,9,33,35,43]) ok rfl lo pl (by rw [Tryz.params7];intro t ht;revert t;decide+kernel) rfl (by kernel_rfl) rfl ?_ (zCr hL) ?_ hval hW
 ·intro ds hl;have hl:ds.length=2:=hl
  match ds,hl with|[d0,d1],_=>exact ⟨rfl,rfl,rfl⟩
 ·exact fun avs _ h=>zG7 avs h hz
theorem zC7:Rows.ClientHidesSaid:=
 OpenClaim.holds_of_cond 7 Tryz.f7 rfl rfl rfl rfl rfl rfl rfl ⟨rfl,rfl,rfl,rfl,rfl⟩ rfl rfl rfl rfl rfl (by kernel_rfl) Tryz.func7 (by kernel_rfl)
  (of_decide_eq_true (by kernel_rfl)) (by unfold Func.isWrapper;first|(rw [if_pos (by decide+kernel)];kernel_rfl)|(rw [if_neg (by decide+kernel)];exact ⟨rfl,rfl⟩))
  (fun os started H enc _ F=>by rw [OpenClaim.pre_eq_preRow];exact zzU os started H enc F)
theorem zH3 (f:FuncId) (fn:Func) (hf:Tryz.pinned.checked.prog.funcNamed "sluiceway/sluicewaylaw19.ClientHides"=some f) (hfn:Tryz.pinned.checked.prog.funcs[f]?=some fn):
 true=Tryz.pinned.checked.prog.looks [] /\ ∀(j:Nat) t,fn.params[j]?=some t -> Tryz.pinned.checked.prog.wantsStandIn t=false:=by
 obtain rfl:f=7:=Option.some.inj ((show Tryz.prog.funcNamed "sluiceway/sluicewaylaw19.ClientHides"=some 7 by kernel_rfl).symm.trans hf)|>.symm;obtain rfl:fn=Tryz.f7:=(Option.some.inj (Tryz.func7.symm.trans hfn)).symm;refine ⟨by kernel_rfl,fun j t ht=>?_⟩;rw [Tryz.params7]at ht;exact (show ∀t∈(#[3,9]:Array TypeId),Tryz.prog.wantsStandIn t=false by decide+kernel) t (Array.mem_of_getElem? ht)
theorem clientHides_card:Rows.ClientHidesCardSaid:=
 Claim7.holds_tied_plain_at .later [] _ _ _ _ zC7 (fun _ h=>by cases h) (by kernel_rfl) (fun _ h=>by cases h) clientHides_row_tie rfl ⟨rfl,rfl⟩ (by kernel_rfl) rfl zH3 (by kernel_rfl)
#print axioms clientHides_card
end Go.Proofs.YthcobbfffjfboaaGreatDoor
