/- Kdc laws hold, whatever the input. -/
import Derived.Test.YtdiebjbepfjjfaaGreatDoorFB
import Derived.Test.YtdiebjbepfjjfaaGreatDoorG10
set_option maxHeartbeats 16000000
set_option maxRecDepth 100000
set_option linter.unusedVariables false
set_option linter.unusedSimpArgs false
set_option linter.unusedSectionVars false
namespace Go.Proofs.YtdiebjbepfjjfaaGreatDoor
open Go Abs Go.RowKit
theorem zIh{H:Type}{ds:List (DataW H)}:∀a,kO Tryz.prog Tryz.f7.params.toList ds a->Rch Tryz.prog reachBytes Tryz.f7.params.toList ds->Tru (yq AA (run AA) 42 a S0):=by
 intro a h b;obtain⟨_,hT⟩:=hT;rw[Tryz.params7]at h b;obtain⟨c,_,_,rfl,d,h,b⟩:=ztk Tryz.underlying3 h b;obtain⟨e,_,_,rfl,f,h,b⟩:=ztk Tryz.underlying3 h b;obtain rfl:=zHn h;exact zBT (Nat.le_refl _)
theorem zHu(os:Os){H:Type}(enc:TypeId×Value->H):∃a,DataW.whole enc Tryz.prog ((World.doorLaid Tryz.prog 80 os).forCall (fun _ _=>0) ⟨#[],#[.int .i64 0,.int .i64 0],[]⟩).memory Tryz.f7.params.toList Rows.kdcSkewSpec.vars false (#[.int .i64 0,.int .i64 0]:Array Value).toList 8=some ([.lit (.int .i64 0),.lit (.int .i64 0)],[],a):=
 ⟨[],by kernel_rfl⟩
theorem zBO(os:Os)(a:os.Started)(H:Type)(enc:TypeId×Value->H)(F:Stop.Interp):
 ReturnsInHanded {} Tryz.checked os 7 .any ((OpenSpec.ofChange Rows.kdcSkewSpec).preRow enc Tryz.prog Tryz.f7 Rows.kdcSkewRow.domain false Rows.kdcSkewRow.laid) (((OpenSpec.ofChange Rows.kdcSkewSpec).at F).post enc Tryz.prog Tryz.f7 false true false false):=by
 obtain⟨c,n⟩:=zHu os enc;refine returnsInHanded_of_row (C:=Tryz.checked) (s:=(OpenSpec.ofChange Rows.kdcSkewSpec)) own a (by kernel_rfl) Tryz.func7
  (witness_row_atRef (enc:=enc) (C:=Tryz.checked) false (World.doorLaid Tryz.prog 80 os) #[.int .i64 0,.int .i64 0] rfl (by kernel_rfl) (by kernel_rfl) (by kernel_rfl)
   (OpenSpec.preRow_of_cond 8 n (by kernel_rfl) (fun k o=>by cases o) (by kernel_rfl) (zz3 os _))) ?_
 intro W base args ds l d b m _ f e p _ _;have e:(DataW.weightsEach Tryz.prog (Tryz.f7.params.toList++[]) (ds++l)).all (· <=reachBytes)=true:=e;have g:l=[]:=by
  obtain⟨_,_,_,q,_⟩:=m;exact(Go.ChangeShapes.trodVars_none q).1
 subst g;rw[List.append_nil,List.append_nil]at e;refine zBU (P:=Tryz.prog) (fn:=Tryz.f7) (s:=Rows.kdcSkewSpec) (key:=42) (L:=[3,4]) ok rfl lo pl (by rw[Tryz.params7];intro t r;revert t;decide+kernel) rfl (by kernel_rfl) rfl ?_ (zAQ p) ?_ b m
 ·intro ds i;have i:ds.length=2:=i
  match ds,i with|[d0,d1],_=>exact⟨rfl,rfl,rfl⟩
 ·exact fun j _ h=>zIh j h e
theorem zBK:(Rows.kdcSkewRow.inPlace==Tryz.pinned.checked.prog.inPlace 7)=true:=by kernel_rfl
theorem zBL:(Rows.kdcSkewRow.unfollowed==Tryz.pinned.checked.prog.unfollowed 7)=true:=by kernel_rfl
theorem zBM:(Rows.kdcSkewRow.recurses==Tryz.pinned.checked.prog.recurses 7)=true:=by kernel_rfl
theorem zBN:(Rows.kdcSkewRow.named==Tryz.pinned.checked.prog.varsNamed 7)=true:=by kernel_rfl
theorem zBQ:Rows.KdcSkewSaid:=
 OpenClaim.holds_of_cond 7 Tryz.f7 rfl rfl rfl rfl rfl rfl rfl ⟨rfl,rfl,rfl,rfl,rfl⟩ rfl rfl rfl rfl rfl (by kernel_rfl) Tryz.func7 (by unfold joinedFacts;rw[zBK,zBL,zBM,zBN];kernel_rfl)
  (of_decide_eq_true (by kernel_rfl)) (by unfold Func.isWrapper;first|(rw[if_pos (by decide+kernel)];kernel_rfl)|(rw[if_neg (by decide+kernel)];exact⟨rfl,rfl⟩))
  (fun os a H enc _ F=>by rw[OpenClaim.pre_eq_preRow];exact zBO os a H enc F)
theorem zBP(f:FuncId)(fn:Func)(c:Tryz.pinned.checked.prog.funcNamed "sluiceway/sluicewaylaw18.KdcSkew"=some f)(a:Tryz.pinned.checked.prog.funcs[f]?=some fn):
 true=Tryz.pinned.checked.prog.looks []/\∀(j:Nat) t,fn.params[j]?=some t->Tryz.pinned.checked.prog.wantsStandIn t=false:=by
 obtain rfl:f=7:=Option.some.inj ((show Tryz.prog.funcNamed "sluiceway/sluicewaylaw18.KdcSkew"=some 7 by kernel_rfl).symm.trans c)|>.symm;obtain rfl:fn=Tryz.f7:=(Option.some.inj (Tryz.func7.symm.trans a)).symm;refine⟨by kernel_rfl,fun j t b=>?_⟩;rw[Tryz.params7]at b;exact(show ∀t∈(#[3,3]:Array TypeId),Tryz.prog.wantsStandIn t=false by decide+kernel) t (Array.mem_of_getElem? b)
theorem kdcSkew_card:Rows.KdcSkewCardSaid:=
 Claim7.holds_tied_plain_at .later [] _ _ _ _ zBQ (fun _ h=>by cases h) (by kernel_rfl) (fun _ h=>by cases h) kdcSkew_row_tie rfl ⟨rfl,rfl⟩ (by kernel_rfl) rfl zBP (by kernel_rfl)
#print axioms kdcSkew_card
end Go.Proofs.YtdiebjbepfjjfaaGreatDoor
