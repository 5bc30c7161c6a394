/- Depth; Same. -/
import Derived.Test.YthcobbfffjfboaaGreatDoorG1
set_option linter.unusedVariables false
set_option linter.unusedSimpArgs false
set_option linter.unusedSectionVars false
namespace Abs
open Go
def T.dep:Nat -> T -> Nat
 |0,_=>0
 |1,_=>1
 |d+2,t=>(t.kids.foldl (fun n k=>max n (T.dep (d+1) k)) 0)+1
def kC (d:Nat) (l:List T):Nat:=l.foldl (fun n k=>max n (T.dep d k)) 0
theorem zzl {d:Nat} {l:List T} {k:T}:kC d (l++[k])=max (kC d l) (k.dep d):=by simp [kC]
theorem zB9 {d i:Nat} {l:List T} {k:T} (h:l[i]?=some k):kC d (l.take (i+1))=max (kC d (l.take i)) (k.dep d):=by
 rw [List.take_add_one,h];exact zzl
theorem zl8 {d b:Nat} {g:T -> Nat}:∀{l:List T} {n:Nat},n <=b -> (∀k∈l,g k <=b) -> l.foldl (fun n k=>max n (g k)) n <=b
 |[],n,hn,_=>hn
 |k::l,n,hn,h=>zl8 (d:=d) (l:=l) (Nat.max_le.2 ⟨hn,h k (by simp)⟩) fun x hx=>h x (by simp [hx])
theorem T.dep_le:∀{d:Nat} {t:T},t.dep d <=d
 |0,_=>Nat.le_refl _
 |1,_=>Nat.le_refl _
 |d+2,t=>by
  rw [T.dep];have:=@zl8 d (d+1) (T.dep (d+1)) t.kids 0 (Nat.zero_le _) fun k _=>T.dep_le;omega
theorem zFL {d:Nat} {l:List T}:kC d l <=d:=zl8 (d:=d) (Nat.zero_le _) fun _ _=>T.dep_le
section
theorem zI7 {a b:T} {rg:Nat -> Option (List AV)} {S:AS} {ks:List Kn} (h2:rg 2=some a.cells) (h3:rg 3=some b.cells)
 (hl:a.kids.length=b.kids.length) (hb:a.kids.length <=4611686018427387904)
 (ih:∀t∈a.kids,∀u,call 114 [.agg t.cells,.agg u.cells] S=some (.sc (.bool (t.same u)),S))
 (hf:∀e,e 4=.sc (.bool false) -> fin [.tmp 4] (unw AA (some (.ret,st 48 e rg S)) ks)=some (.sc (.bool false),S))
 (hk:∀e,fin [.tmp 4] (unw AA (some (.exit 0,st 48 e rg S)) ks)=some (.sc (.bool true),S)):
 ∀(n i:Nat) (e:Nat -> AV) (tm:List Nat),n+i=a.kids.length -> tm=[4,6,28,29,30,31,32,33,34,35,36,37,38,39,40,41,42,43,44,45,46,47] -> e 2=.reg 2 0 -> e 3=.reg 3 0 -> e 5=.sc (.int .i64 i) ->
  fin [.tmp 4] (zA AA (.loop tm [] zck) (st 48 e rg S) ks)=some (.sc (.bool (qv (a.kids.drop i) (b.kids.drop i))),S):=by
 intro n
 induction n with
 |zero=>
  intro i e tm hn htm h2' h3' h5;rw [vj];generalize hkk:Kn.loop tm [] zck::ks=kk;have hc:¬(i:Int) < a.kids.length:=by omega
  simp [zck,zk,htm,h2',h3',h5,h2,hc];rw [<- hkk];simp;rw [hk,List.drop_eq_nil_of_le (by omega),List.drop_eq_nil_of_le (by omega)];rfl
 |succ n ihn=>
  intro i e tm hn htm h2' h3' h5;rw [vj];generalize hkk:Kn.loop tm [] zck::ks=kk;have hc:(i:Int) < a.kids.length:=by omega
  have hi:i < a.kids.length:=by omega
  have hi':i < b.kids.length:=by omega
  obtain ⟨t,ht⟩:∃t,a.kids[i]?=some t:=⟨a.kids[i],by simp [hi]⟩;obtain ⟨u,hu⟩:∃u,b.kids[i]?=some u:=⟨b.kids[i],by simp [hi']⟩;have hd:qv (a.kids.drop i) (b.kids.drop i)=(t.same u && qv (a.kids.drop (i+1)) (b.kids.drop (i+1))):=by
   obtain ⟨_,e1⟩:=List.getElem?_eq_some_iff.1 ht;obtain ⟨_,e2⟩:=List.getElem?_eq_some_iff.1 hu;rw [List.drop_eq_getElem_cons hi,List.drop_eq_getElem_cons hi',e1,e2];rfl
  have hs:=ih t (List.mem_of_getElem? ht) u;have w1:IntKind.i64.wrap ((i:Int)+1)=((i+1:Nat):Int):=w64 (by omega);rw [hd];cases hsm:t.same u with
  |false=>
   rw [hsm]at hs;simp [zck,zk,htm,h2',h3',h5,h2,h3,hc,zI ht,zI hu,hs];rw [<- hkk];simp;exact hf _ (by simp [zk])
  |true=>
   rw [hsm]at hs;simp [zck,zk,htm,h2',h3',h5,h2,h3,hc,zI ht,zI hu,hs,w1];rw [<- hkk,wV];exact ihn (i+1) _ tm (by omega) htm (by simp [zk,htm,h2']) (by simp [zk,htm,h3']) (by simp [zk])
theorem zo7:∀(n:Nat) (a b:T) (S:AS),sizeOf a < n -> a.fits -> call 114 [.agg a.cells,.agg b.cells] S=some (.sc (.bool (a.same b)),S)
 |0,_,_,_,h,_=>by omega
 |n+1,a,b,S,hn,hfit=>by
  obtain ⟨hlen,hkids⟩:=T.fits_kids hfit;rw [zh zDu rfl (by simp) rfl];simp only [zhZ];rw [T.same_def];by_cases h1:a.kind=b.kind
  ·by_cases h2:a.name=b.name
   ·by_cases h3:a.kids.length=b.kids.length
    ·simp [zeS,zk,vd,h1,h2,h3];refine (congrArg (zW S) (zI7 (a:=a) (b:=b) (by simp [vd]) (by simp [vd]) h3 hlen
      (fun t ht u=>zo7 n t u _ (by have:=T.kid_lt ht;omega) (hkids t ht)) ?_ ?_ a.kids.length 0 _ _ (by omega) rfl (by simp [zk]) (by simp [zk]) (by simp [zk]))).trans ?_
     ·intro e he;simp [he,y6,jc]
     ·intro e;simp [zk,y6,jc]
     ·simp [wd]
    ·have hs:qv a.kids b.kids=false:=by
      rw [Bool.eq_false_iff];intro h;exact h3 (by rw [zhe.1 h])
     have h3':¬(a.kids.length:Int)=b.kids.length:=by omega
     simp [zeS,zk,vd,h1,h2,h3,h3',hs,y6,jc,wd]
   ·simp [zeS,zk,vd,h1,h2,y6,jc,wd]
  ·simp [zeS,zk,vd,h1,y6,jc,wd]
@[simp] theorem zz6 {a b:T} {S:AS} (h:a.fits):call 114 [.agg a.cells,.agg b.cells] S=some (.sc (.bool (a.same b)),S):=zo7 _ a b S (Nat.lt_succ_self _) h
theorem zj6:∀{d:Nat} {t:T} {S:AS},d <=1000 -> t.fits -> call 314 [.agg t.cells,.sc (.int .i64 (d:Nat))] S=some (.sc (.int .i64 (t.dep d:Nat)),S)
 |0,t,S,_,_=>by
  rw [zh zjR rfl (by simp) rfl];simp [zek,zhf,T.dep]
 |1,t,S,_,_=>by
  rw [zh zjR rfl (by simp) rfl];simp [zek,zhf,T.dep]
 |d+2,t,S,hd,hf=>by
  obtain ⟨hl,hk⟩:=T.fits_kids hf;rw [zh zjR rfl (by simp) rfl];have h0:¬((d:Int)+2 <=1):=by omega
  have e1:IntKind.i64.wrap ((d:Int)+2 - 1)=((d+1:Nat):Int):=by rw [w64 (by omega)];omega
  rw [T.dep];simp only [zek];simp [-zg,zhf,h0];refine jY (α:=Nat) (R:=fun _ r=>zW S r=some (.sc (.int .i64 ((kC (d+1) t.kids:Nat)+1)),S)) (fun i e rg S'=>i <=t.kids.length /\ e 1=.sc (.int .i64 ((d:Int)+2)) /\ e 2=.reg 2 0 /\ rg 2=some t.cells /\ e 5=.sc (.int .i64 (kC (d+1) (t.kids.take i):Nat)) /\ e 6=.sc (.int .i64 (i:Nat))) (fun i=>t.kids.length - i) ?_ 0 _ _ _ ?_;rotate_left
  ·exact ⟨by omega,by simp,by simp,by simp,by simp [kC],by simp⟩
  intro kk hkk i e rg S' ⟨hi,h1,h2,hr,h5,h6⟩ ih;by_cases hc:i < t.kids.length
  ·obtain ⟨k,hkk'⟩:=jK hc;have hm:=List.mem_of_getElem? hkk';have w2:IntKind.i64.wrap ((i:Int)+1)=((i+1:Nat):Int):=w64 (by omega);have e314:∀S,call 314 [.agg k.cells,.sc (.int .i64 ((d:Int)+1))] S=some (.sc (.int .i64 (k.dep (d+1):Nat)),S):=fun S=>@zj6 (d+1) k S (by omega) (hk k hm);have hmx:(max (kC (d+1) (t.kids.take i):Int) (k.dep (d+1):Int))=(kC (d+1) (t.kids.take (i+1)):Nat):=by rw [zB9 hkk'];omega
   simp [-zg,zkX,h1,h2,hr,h5,h6,hc,zI hkk',e1,w2,e314];refine ih (i+1) _ _ _ (by omega) (fun _ h=>h) ?_;exact ⟨by omega,by simp [h1],by simp [h2],by simp [hr],by simpa using hmx,by simp⟩
  ·have hi':i=t.kids.length:=by omega
   subst hi';rw [List.take_length]at h5;have hle:=@zFL (d+1) t.kids;have w3:IntKind.i64.wrap ((kC (d+1) t.kids:Int)+1)=(kC (d+1) t.kids:Int)+1:=w64 (by omega);simp [-zg,zkX,h1,h2,hr,h6];rw [hkk];simp [h5,w3]
def eqF (g:T -> T -> Bool):List T -> List T -> Bool
 |[],[]=>true
 |a::l,b::m=>g a b && eqF g l m
 |_,_=>false
theorem ztS {g:T -> T -> Bool}:∀{l m:List T},eqF g l m=true -> l.length=m.length
 |[],[],_=>rfl
 |a::l,b::m,h=>by
  simp only [eqF,Bool.and_eq_true]at h;simp [ztS h.2]
 |[],_::_,h=>by cases h
 |_::_,[],h=>by cases h
theorem zsY:∀{l m:List T},eqF T.same l m=qv l m
 |[],[]=>rfl
 |[],_::_=>rfl
 |_::_,[]=>rfl
 |a::l,b::m=>by rw [eqF,qv,zsY]
theorem zsT {g:T -> T -> Bool} {l m:List T} {i:Nat} {t u:T} (ht:l[i]?=some t) (hu:m[i]?=some u):eqF g (l.drop i) (m.drop i)=(g t u && eqF g (l.drop (i+1)) (m.drop (i+1))):=by
 obtain ⟨hi,e1⟩:=List.getElem?_eq_some_iff.1 ht;obtain ⟨hi',e2⟩:=List.getElem?_eq_some_iff.1 hu;rw [List.drop_eq_getElem_cons hi,List.drop_eq_getElem_cons hi',e1,e2];rfl
theorem zxk {S:AS} {k:Nat} {l m:List T} {g:T -> T -> Bool} (hl:l.length <=4611686018427387904)
 (hg:∀t∈l,∀u S',call k [.agg t.cells,.agg u.cells] S'=some (.sc (.bool (g t u)),S')):call 224 [zf l,zf m,.fn k [] []] S=some (.sc (.bool (eqF g l m)),S):=by
 rw [ym zHR (by simp) rfl];simp only [zgd];by_cases hlm:l.length=m.length
 ·simp [zli,hlm];refine ko (α:=Nat) (R:=fun i r=>r=some (.sc (.bool (eqF g (l.drop i) (m.drop i))),S)) (fun i e rg S'=>i <=l.length /\ S'=S /\ NQ [6,7,8,9,18,19,20,21,22,23,24,25,26,27,28,29,30,31] [8,9] e /\ e 1=zf m /\ e 2=.fn k [] [] /\ e 15=zf l /\ e 16=.sc (.int .i64 (l.length:Nat)) /\ e 17=.sc (.int .i64 (i:Nat))) (fun i=>l.length - i) (fun _ _ _ _ h=>h.2.2.1) ?_ 0 _ _ _ ?_;rotate_left
  ·refine ⟨by omega,rfl,?_,by simp,by simp,by simp,by simp [hlm],by simp⟩
   repeat (first|exact vx rfl|refine yh ?_ (by simp))
  intro kk hkk i e rg S' ⟨hi,hS,hq,h1,h2,h15,h16,h17⟩ ih;subst hS;by_cases hc:i < l.length
  ·obtain ⟨t,ht⟩:=jK hc;obtain ⟨u,hu⟩:=jK (l:=m) (i:=i) (by omega);have w2:IntKind.i64.wrap ((i:Int)+1)=((i+1:Nat):Int):=w64 (by omega);have hcall:=hg t (List.mem_of_getElem? ht) u;cases hb:g t u with
   |false=>
    rw [hb]at hcall;rw [zsT ht hu,hb];simp [ziW,h1,h2,h15,h16,h17,hc,zI ht,zI hu,hcall,zrD];rw [hkk];simp
   |true=>
    rw [hb]at hcall;simp [ziW,h1,h2,h15,h16,h17,hc,zI ht,zI hu,hcall,w2];refine ih (i+1) _ _ _ (by omega) (fun _ h=>?_) ?_
    ·rw [h];rw [zsT ht hu,hb];simp
    ·refine ⟨by omega,rfl,?_,by simp [h1],by simp [h2],by simp [h15],by simp [h16],by simp⟩
     repeat (first|exact zaH hq|refine yh ?_ (by simp))
  ·have hi':i=l.length:=by omega
   subst hi';simp [ziW,h1,h2,h15,h16,h17,eqF];rw [hkk,hlm];simp [eqF]
 ·have h2:¬((l.length:Int)=m.length):=by omega
  have h3:eqF g l m=false:=by
   rw [Bool.eq_false_iff];exact fun h=>hlm (ztS h)
  simp [zli,h2,h3]
theorem zty:∀(n:Nat) (a b:T) (S:AS),sizeOf a < n -> a.fits -> call 118 [.agg a.cells,.agg b.cells] S=some (.sc (.bool (a.same b)),S)
 |0,_,_,_,h,_=>by omega
 |n+1,a,b,S,hn,hfit=>by
  obtain ⟨hlen,hkids⟩:=T.fits_kids hfit;rw [zh zHA rfl (by simp) rfl];have e224:=fun S=>@zxk S 118 a.kids b.kids T.same hlen (fun t ht u S'=>zty n t u S' (by have:=T.kid_lt ht;omega) (hkids t ht));rw [zsY]at e224;rw [T.same_def];by_cases h1:a.kind=b.kind
  ·by_cases h2:a.name=b.name
   ·simp [zdv,zgH,h1,h2,e224]
   ·simp [zdv,zgH,h1,h2]
  ·simp [zdv,zgH,h1]
@[simp] theorem zKU {a b:T} {S:AS} (h:a.fits):call 118 [.agg a.cells,.agg b.cells] S=some (.sc (.bool (a.same b)),S):=zty _ a b S (Nat.lt_succ_self _) h
end
mutual
def T.dp:T -> Nat
 | .mk _ _ l=>dpL l+1
def dpL:List T -> Nat
 |[]=>0
 |t::l=>max t.dp (dpL l)
end
mutual
def T.rshp:T -> Bool
 | .mk k n l=>(T.mk k n l).one && vo l
def vo:List T -> Bool
 |[]=>true
 |t::l=>t.rshp && vo l
end
theorem T.dp_def:∀t:T,t.dp=dpL t.kids+1
 | .mk _ _ _=>by rw [T.dp];rfl
theorem T.rshp_def:∀t:T,t.rshp=(t.one && vo t.kids)
 | .mk _ _ _=>by rw [T.rshp];rfl
theorem zbR:∀{l:List T},vo l=true↔∀t∈l,t.rshp=true
 |[]=>by simp [vo]
 |t::l=>by simp [vo,zbR (l:=l)]
theorem zul:∀{l:List T},vo l=l.all T.rshp
 |[]=>rfl
 |t::l=>by rw [vo,List.all_cons,zul]
theorem zoN:∀{l:List T},∀t∈l,t.dp <=dpL l
 |[],t,h=>by cases h
 |a::l,t,h=>by
  rw [dpL];rcases List.mem_cons.1 h with rfl|h
  ·exact Nat.le_max_left _ _
  ·exact Nat.le_trans (zoN t h) (Nat.le_max_right _ _)
theorem T.dp_kid {t u:T} (h:u∈t.kids):u.dp+1 <=t.dp:=by
 rw [t.dp_def];have:=zoN u h;omega
theorem T.dp_pos {t:T}:1 <=t.dp:=by rw [T.dp_def];omega
theorem zuk {d:Nat}:∀{l:List T} {n:Nat},(∀k∈l,T.dep d k=min d k.dp) -> n <=d -> l.foldl (fun n k=>max n (T.dep d k)) n=max n (min d (dpL l))
 |[],n,_,_=>by simp [dpL]
 |k::l,n,h,hn=>by
  rw [List.foldl_cons,zuk (fun x hx=>h x (by simp [hx])) (by rw [h k (by simp)];omega),h k (by simp),dpL];omega
theorem T.dep_eq:∀{d:Nat} {t:T},t.dep d=min d t.dp
 |0,t=>by rw [T.dep];omega
 |1,t=>by rw [T.dep];have:=t.dp_pos;omega
 |d+2,t=>by
  rw [T.dep,zuk (fun k _=>T.dep_eq) (Nat.zero_le _),t.dp_def];omega
theorem T.shp_eq:∀{d:Nat} {t:T},t.shp d=(t.rshp && decide (t.dp <=d))
 |0,t=>by rw [T.shp];have:=t.dp_pos;simp;intro;omega
 |d+1,t=>by
  rw [T.shp,t.rshp_def,t.dp_def];have h:(t.kids.all fun k=>k.shp d)=(vo t.kids && decide (dpL t.kids <=d)):=by
   generalize t.kids=l
   induction l with
   |nil=>simp [vo,dpL]
   |cons k l ih=>
    rw [List.all_cons,ih,T.shp_eq,vo,dpL];cases k.rshp<;>cases vo l<;>simp;by_cases h1:k.dp <=d<;>by_cases h2:dpL l <=d<;>simp [h1,h2]<;>omega
  show (t.one && t.kids.all fun k=>k.shp d)=_;rw [h];cases t.one<;>simp
theorem T.one_iff {t:T}:t.one=true↔knd t.kind=true /\ (nmd t.kind=true↔t.name≠⟨#[]⟩) /\ (kdn t.kind < 0 \/ (t.kids.length:Int)=kdn t.kind):=by
 unfold T.one;cases knd t.kind<;>cases nmd t.kind<;>by_cases h:t.name=⟨#[]⟩<;>simp [h]
section
variable {S:AS}
@[simp] theorem zJ3 {k:Int}:call 419 [.sc (.int .i64 k)] S=some (.sc (.int .i64 (if knd k then kdn k else -2)),S):=by
 rw [zh zI2 rfl (by simp) rfl];by_cases h1:k=1
 ·subst h1;simp [vD,kH];rfl
 by_cases h2:k=2
 ·subst h2;simp [vD,kH];rfl
 by_cases h3:k=3
 ·subst h3;simp [vD,kH];rfl
 by_cases h4:k=4
 ·subst h4;simp [vD,kH];rfl
 by_cases h5:k=5
 ·subst h5;simp [vD,kH];rfl
 by_cases h6:k=6
 ·subst h6;simp [vD,kH];rfl
 by_cases h7:k=7
 ·subst h7;simp [vD,kH];rfl
 by_cases h8:k=8
 ·subst h8;simp [vD,kH];rfl
 by_cases h9:k=9
 ·subst h9;simp [vD,kH];rfl
 by_cases h10:k=10
 ·subst h10;simp [vD,kH];rfl
 have:knd k=false:=by
  unfold knd;rw [decide_eq_false_iff_not];omega
 simp [vD,kH,h1,h2,h3,h4,h5,h6,h7,h8,h9,h10,this]
theorem ztu:∀(n:Nat) (t:T) (S:AS),sizeOf t < n -> t.fits -> call 346 [.agg t.cells] S=some (.sc (.bool t.rshp),S)
 |0,_,_,h,_=>by omega
 |n+1,t,S,hn,hfit=>by
  obtain ⟨hl,hk⟩:=T.fits_kids hfit;rw [zh zGX rfl (by simp) rfl];have ih:∀u∈t.kids,∀S,call 346 [.agg u.cells] S=some (.sc (.bool u.rshp),S):=fun u hu S=>ztu n u S (by have:=T.kid_lt hu;omega) (hk u hu);rw [t.rshp_def,zul];simp only [zi3];by_cases h1:knd t.kind=true
  ·have hm2:¬kdn t.kind= -2:=by unfold kdn;split<;>(try split)<;>(try split)<;>omega
   have hnm:(nmd t.kind:Bool)=(decide (t.kind=1) ||(decide (t.kind=2) ||decide (t.kind=7))):=by
    unfold nmd;by_cases a:t.kind=1<;>by_cases b:t.kind=2<;>by_cases c:t.kind=7<;>simp [a,b,c]
   have key:∀(e:Nat -> AV) (rg:Nat -> Option (List AV)) (S':AS) (kk:List Kn),e 1=.reg 1 0 -> rg 1=some t.cells -> e 5=.i 0 ->
    (∀e rg S',fin [.tmp 2] (unw AA (some (.exit 0,st 58 e rg S')) kk)=some (.sc (.bool true),S')) -> (∀e rg S',e 2=.sc (.bool false) -> fin [.tmp 2] (unw AA (some (.ret,st 58 e rg S')) kk)=some (.sc (.bool false),S')) ->
    zW S (fin [.tmp 2] (zA AA (.loop [2,6,43,44,45,46,47,48,49,50,51,52,53,54,55,56,57] [] ze9) (st 58 e rg S') kk))=some (.sc (.bool (t.kids.all T.rshp)),S):=by
    intro e rg S' ks g1 g2 g5 hex hrt;refine jY (α:=Nat) (R:=fun _ r=>zW S r=some (.sc (.bool (t.kids.all T.rshp)),S)) (fun i e rg S'=>i <=t.kids.length /\ e 1=.reg 1 0 /\ rg 1=some t.cells /\ e 5=.sc (.int .i64 (i:Nat)) /\ ∀u∈t.kids.take i,u.rshp=true) (fun i=>t.kids.length - i) ?_ 0 _ _ _ ⟨by omega,g1,g2,g5,fun u hu=>by simp at hu⟩;intro kk hkk i e rg S' ⟨hi,q1,q2,q5,hu⟩ ihl;by_cases hc:i < t.kids.length
    ·obtain ⟨k,hk'⟩:=jK hc;have w2:IntKind.i64.wrap ((i:Int)+1)=((i+1:Nat):Int):=w64 (by omega);have e346:=ih k (List.mem_of_getElem? hk');cases hb:k.rshp with
     |false=>
      rw [hb]at e346;have:t.kids.all T.rshp=false:=by
       rw [List.all_eq_false];exact ⟨k,List.mem_of_getElem? hk',by simp [hb]⟩
      simp [-zg,ze9,q1,q2,q5,hc,zI hk',e346];rw [hkk,this];simp [-zg];rw [hrt _ _ _ (by simp)];simp
     |true=>
      rw [hb]at e346;simp [-zg,ze9,q1,q2,q5,hc,zI hk',e346,w2];refine ihl (i+1) _ _ _ (by omega) (fun _ h=>h) ?_;refine ⟨by omega,by simp [q1],by simp [q2],by simp,fun u hu'=>?_⟩;rw [List.take_add_one,hk']at hu';rcases List.mem_append.1 hu' with hu'|hu'
      ·exact hu u hu'
      ·simp at hu';rw [hu'];exact hb
    ·have hi':i=t.kids.length:=by omega
     subst hi';rw [List.take_length]at hu;have:t.kids.all T.rshp=true:=List.all_eq_true.2 hu;simp [-zg,ze9,q1,q2,q5];rw [hkk,this];simp [-zg];rw [hex];simp
   have hcs:t.kind=1 \/ t.kind=2 \/ t.kind=7 \/ (¬t.kind=1 /\ ¬t.kind=2 /\ ¬t.kind=7):=by omega
   rcases hcs with c|c|c|⟨c1,c2,c7⟩
   ·skip
    have e1:(t.kind=1)=True:=eq_true c;have e2:(t.kind=2)=False:=eq_false (by omega);have e7:(t.kind=7)=False:=eq_false (by omega);have hn:nmd t.kind=true:=by unfold nmd;simp [e1,e2,e7]
    by_cases h5:kdn t.kind < 0
    ·have h5':¬0 <=kdn t.kind:=by omega
     by_cases hname:t.name=⟨#[]⟩
     ·have hone:t.one=false:=by unfold T.one;simp [h1,hn,hname,h5,h5']
      simp [jx,h1,hm2,e1,e2,e7,h5,h5',hname,hone]
     ·have hone:t.one=true:=by unfold T.one;simp [h1,hn,hname,h5,h5']
      simp [-zg,jx,h1,hm2,e1,e2,e7,h5,h5',hname,hone];exact key _ _ _ _ (by simp) (by simp) (by simp) (fun e rg S'=>by simp) (fun e rg S' he=>by simp [he])
    ·have h5':0 <=kdn t.kind:=by omega
     by_cases h6:(t.kids.length:Int)=kdn t.kind
     ·skip
      by_cases hname:t.name=⟨#[]⟩
      ·have hone:t.one=false:=by unfold T.one;simp [h1,hn,hname,h5,h5',h6]
       simp [jx,h1,hm2,e1,e2,e7,h5,h5',h6,hname,hone]
      ·have hone:t.one=true:=by unfold T.one;simp [h1,hn,hname,h5,h5',h6]
       simp [-zg,jx,h1,hm2,e1,e2,e7,h5,h5',h6,hname,hone];exact key _ _ _ _ (by simp) (by simp) (by simp) (fun e rg S'=>by simp) (fun e rg S' he=>by simp [he])
     ·skip
      by_cases hname:t.name=⟨#[]⟩
      ·have hone:t.one=false:=by unfold T.one;simp [h1,hn,hname,h5,h5',h6]
       simp [jx,h1,hm2,e1,e2,e7,h5,h5',h6,hname,hone]
      ·have hone:t.one=false:=by unfold T.one;simp [h1,hn,hname,h5,h5',h6]
       simp [jx,h1,hm2,e1,e2,e7,h5,h5',h6,hname,hone]
   ·skip
    have e1:(t.kind=1)=False:=eq_false (by omega);have e2:(t.kind=2)=True:=eq_true c;have e7:(t.kind=7)=False:=eq_false (by omega);have hn:nmd t.kind=true:=by unfold nmd;simp [e1,e2,e7]
    by_cases h5:kdn t.kind < 0
    ·have h5':¬0 <=kdn t.kind:=by omega
     by_cases hname:t.name=⟨#[]⟩
     ·have hone:t.one=false:=by unfold T.one;simp [h1,hn,hname,h5,h5']
      simp [jx,h1,hm2,e1,e2,e7,h5,h5',hname,hone]
     ·have hone:t.one=true:=by unfold T.one;simp [h1,hn,hname,h5,h5']
      simp [-zg,jx,h1,hm2,e1,e2,e7,h5,h5',hname,hone];exact key _ _ _ _ (by simp) (by simp) (by simp) (fun e rg S'=>by simp) (fun e rg S' he=>by simp [he])
    ·have h5':0 <=kdn t.kind:=by omega
     by_cases h6:(t.kids.length:Int)=kdn t.kind
     ·skip
      by_cases hname:t.name=⟨#[]⟩
      ·have hone:t.one=false:=by unfold T.one;simp [h1,hn,hname,h5,h5',h6]
       simp [jx,h1,hm2,e1,e2,e7,h5,h5',h6,hname,hone]
      ·have hone:t.one=true:=by unfold T.one;simp [h1,hn,hname,h5,h5',h6]
       simp [-zg,jx,h1,hm2,e1,e2,e7,h5,h5',h6,hname,hone];exact key _ _ _ _ (by simp) (by simp) (by simp) (fun e rg S'=>by simp) (fun e rg S' he=>by simp [he])
     ·skip
      by_cases hname:t.name=⟨#[]⟩
      ·have hone:t.one=false:=by unfold T.one;simp [h1,hn,hname,h5,h5',h6]
       simp [jx,h1,hm2,e1,e2,e7,h5,h5',h6,hname,hone]
      ·have hone:t.one=false:=by unfold T.one;simp [h1,hn,hname,h5,h5',h6]
       simp [jx,h1,hm2,e1,e2,e7,h5,h5',h6,hname,hone]
   ·skip
    have e1:(t.kind=1)=False:=eq_false (by omega);have e2:(t.kind=2)=False:=eq_false (by omega);have e7:(t.kind=7)=True:=eq_true c;have hn:nmd t.kind=true:=by unfold nmd;simp [e1,e2,e7]
    by_cases h5:kdn t.kind < 0
    ·have h5':¬0 <=kdn t.kind:=by omega
     by_cases hname:t.name=⟨#[]⟩
     ·have hone:t.one=false:=by unfold T.one;simp [h1,hn,hname,h5,h5']
      simp [jx,h1,hm2,e1,e2,e7,h5,h5',hname,hone]
     ·have hone:t.one=true:=by unfold T.one;simp [h1,hn,hname,h5,h5']
      simp [-zg,jx,h1,hm2,e1,e2,e7,h5,h5',hname,hone];exact key _ _ _ _ (by simp) (by simp) (by simp) (fun e rg S'=>by simp) (fun e rg S' he=>by simp [he])
    ·have h5':0 <=kdn t.kind:=by omega
     by_cases h6:(t.kids.length:Int)=kdn t.kind
     ·skip
      by_cases hname:t.name=⟨#[]⟩
      ·have hone:t.one=false:=by unfold T.one;simp [h1,hn,hname,h5,h5',h6]
       simp [jx,h1,hm2,e1,e2,e7,h5,h5',h6,hname,hone]
      ·have hone:t.one=true:=by unfold T.one;simp [h1,hn,hname,h5,h5',h6]
       simp [-zg,jx,h1,hm2,e1,e2,e7,h5,h5',h6,hname,hone];exact key _ _ _ _ (by simp) (by simp) (by simp) (fun e rg S'=>by simp) (fun e rg S' he=>by simp [he])
     ·skip
      by_cases hname:t.name=⟨#[]⟩
      ·have hone:t.one=false:=by unfold T.one;simp [h1,hn,hname,h5,h5',h6]
       simp [jx,h1,hm2,e1,e2,e7,h5,h5',h6,hname,hone]
      ·have hone:t.one=false:=by unfold T.one;simp [h1,hn,hname,h5,h5',h6]
       simp [jx,h1,hm2,e1,e2,e7,h5,h5',h6,hname,hone]
   ·skip
    have e1:(t.kind=1)=False:=eq_false c1;have e2:(t.kind=2)=False:=eq_false c2;have e7:(t.kind=7)=False:=eq_false c7;have hn:nmd t.kind=false:=by unfold nmd;simp [e1,e2,e7]
    by_cases h5:kdn t.kind < 0
    ·have h5':¬0 <=kdn t.kind:=by omega
     by_cases hname:t.name=⟨#[]⟩
     ·have hone:t.one=true:=by unfold T.one;simp [h1,hn,hname,h5,h5']
      simp [-zg,jx,h1,hm2,e1,e2,e7,h5,h5',hname,hone];exact key _ _ _ _ (by simp) (by simp) (by simp) (fun e rg S'=>by simp) (fun e rg S' he=>by simp [he])
     ·have hone:t.one=false:=by unfold T.one;simp [h1,hn,hname,h5,h5']
      simp [jx,h1,hm2,e1,e2,e7,h5,h5',hname,hone]
    ·have h5':0 <=kdn t.kind:=by omega
     by_cases h6:(t.kids.length:Int)=kdn t.kind
     ·skip
      by_cases hname:t.name=⟨#[]⟩
      ·have hone:t.one=true:=by unfold T.one;simp [h1,hn,hname,h5,h5',h6]
       simp [-zg,jx,h1,hm2,e1,e2,e7,h5,h5',h6,hname,hone];exact key _ _ _ _ (by simp) (by simp) (by simp) (fun e rg S'=>by simp) (fun e rg S' he=>by simp [he])
      ·have hone:t.one=false:=by unfold T.one;simp [h1,hn,hname,h5,h5',h6]
       simp [jx,h1,hm2,e1,e2,e7,h5,h5',h6,hname,hone]
     ·skip
      by_cases hname:t.name=⟨#[]⟩
      ·have hone:t.one=false:=by unfold T.one;simp [h1,hn,hname,h5,h5',h6]
       simp [jx,h1,hm2,e1,e2,e7,h5,h5',h6,hname,hone]
      ·have hone:t.one=false:=by unfold T.one;simp [h1,hn,hname,h5,h5',h6]
       simp [jx,h1,hm2,e1,e2,e7,h5,h5',h6,hname,hone]
  ·have e1:(t.kind=1)=False:=eq_false (by rintro c;rw [c]at h1;exact h1 rfl);have e2:(t.kind=2)=False:=eq_false (by rintro c;rw [c]at h1;exact h1 rfl);have e7:(t.kind=7)=False:=eq_false (by rintro c;rw [c]at h1;exact h1 rfl);have hone:t.one=false:=by unfold T.one;simp [h1]
   simp [jx,h1,e1,e2,e7,hone]
@[simp] theorem zuS {t:T} (h:t.fits):call 346 [.agg t.cells] S=some (.sc (.bool t.rshp),S):=ztu _ t S (Nat.lt_succ_self _) h
end
mutual
def T.bd (r:Nat):T -> Prop
 | .mk _ n l=>n.size <=r /\ l.length * 48 <=r /\ bdL r l
def bdL (r:Nat):List T -> Prop
 |[]=>True
 |t::l=>t.bd r /\ bdL r l
end
mutual
def T.bulk:T -> Nat
 | .mk _ n l=>1+(n.size+1)+(yi l+1)+1
def yi:List T -> Nat
 |[]=>0
 |t::l=>t.bulk+yi l
end
theorem zt4 {r:Nat}:∀{l:List T},bdL r l↔∀t∈l,t.bd r
 |[]=>by simp [bdL]
 |t::l=>by simp [bdL,zt4 (l:=l)]
theorem zmf:∀{l:List T},∀t∈l,t.bulk <=yi l
 |[],t,h=>by cases h
 |a::l,t,h=>by
  rcases List.mem_cons.1 h with rfl|h
  ·rw [yi];omega
  ·have:=zmf t h;rw [yi];omega
theorem zlG:∀{l:List T},l.length <=yi l
 |[]=>Nat.zero_le _
 | .mk k n m::l=>by
   have:=@zlG l;rw [yi,T.bulk,List.length_cons];omega
mutual
theorem T.fits_bd {r:Nat} (hr:r <=4611686018427387904):∀{t:T},t.bd r -> t.fits
 | .mk _ _ l,h=>⟨by have:=h.2.1;omega,zue hr h.2.2⟩
theorem zue {r:Nat} (hr:r <=4611686018427387904):∀{l:List T},bdL r l -> zbD l
 |[],_=>trivial
 |t::l,h=>⟨t.fits_bd hr h.1,zue hr h.2⟩
end
mutual
theorem T.bd_bulk:∀{t:T} {n:Nat},t.bulk <=n -> t.bd (48 * n)
 | .mk k m l,n,h=>by
   rw [T.bulk]at h;have:=@zlG l;refine ⟨by omega,by omega,zrC (l:=l) (n:=n) (by omega)⟩
theorem zrC:∀{l:List T} {n:Nat},yi l <=n -> bdL (48 * n) l
 |[],_,_=>trivial
 |t::l,n,h=>by
  rw [yi]at h;exact ⟨T.bd_bulk (by omega),zrC (by omega)⟩
end
structure zNd {H:Type} (B:DataW H -> Nat) (BA:List (DataW H) -> Nat):Prop where
 str:∀l,B (.lit (.string l))=l.length+1
 int:∀k n,B (.lit (.int k n))=1
 bool:∀b,B (.lit (.bool b))=1
 nil:B .nil=1
 agg:∀ds,B (.agg ds)=BA ds+1
 slice:∀ds rest,B (.slice ds rest)=BA ds+BA rest+1
 nilA:BA []=0
 consA:∀d r,BA (d::r)=B d+BA r
structure zvr (P:Program) (t i s l:TypeId) (fs:Array Field):Prop where
 hs:P.underlying t=some (.struct fs)
 hf:fs.toList.map (·.type)=[i,s,l]
 hi:P.underlying i=some (.int .i64)
 hst:P.underlying s=some .string
 hl:P.underlying l=some (.slice t)
 hc:P.cellsOf t=3
 hb:P.bytesOf t=48
section
variable {H:Type} {P:Program} {t i s l:TypeId} {fs:Array Field}
theorem zFR {k:IntKind} {d:DataW H} {as:List AV} (hu:P.underlying i=some (.int k)) (h:Rd P i d as):∃n,as=[.sc (.int k n)] /\ (Lit.int k n).wf=true /\ d=.lit (.int k n):=by
 cases h with
 |int h hw=>rw [hu]at h;cases h;exact ⟨_,rfl,hw,rfl⟩
 |str h=>rw [hu]at h;cases h
 |bool h=>rw [hu]at h;cases h
 |slice h=>rw [hu]at h;cases h
 |nil h=>rw [hu]at h;cases h
 |struct h=>rw [hu]at h;cases h
theorem zFK {d:DataW H} {as:List AV} (hu:P.underlying s=some .string) (h:Rd P s d as):∃x,as=[.sc (.string x)] /\ x.size <=maxLen /\ d=.lit (.string x.data.toList):=by
 cases h with
 |str h hs=>exact ⟨_,rfl,hs,rfl⟩
 |int h=>rw [hu]at h;cases h
 |bool h=>rw [hu]at h;cases h
 |slice h=>rw [hu]at h;cases h
 |nil h=>rw [hu]at h;cases h
 |struct h=>rw [hu]at h;cases h
theorem znU {ts:List TypeId} {ds:List (DataW H)} {avs:List AV} (h:vE P (t::ts) ds avs):∃d r as l,ds=d::r /\ avs=kZ P t as::l /\ Rd P t d as /\ vE P ts r l:=by
 cases h with
 |cons h t=>exact ⟨_,_,_,_,rfl,rfl,h,t⟩
theorem zwx {ds:List (DataW H)} {avs:List AV} (h:vE P [] ds avs):ds=[] /\ avs=[]:=by cases h;exact ⟨rfl,rfl⟩
def Rch (P:Program) (r:Nat) (ts:List TypeId) (ds:List (DataW H)):Prop:=(DataW.weightsEach P ts ds).all (· <=r)=true
theorem zoe {ts:List TypeId} {ds:List (DataW H)} {d:DataW H} {r:Nat} (h:Rch P r (t::ts) (d::ds)):(d.weights P t).all (· <=r)=true /\ Rch P r ts ds:=by
 unfold Rch at h ⊢;rw [DataW.weightsEach,List.all_append,Bool.and_eq_true]at h;exact h
section
variable {r:Nat} {ts:List TypeId} {ds:List (DataW H)} {avs:List AV}
theorem zz1 (h:vE P [] ds avs):avs=[]:=(zwx h).2
theorem zA7 (hu:P.underlying s=some .string) (h:vE P (s::ts) ds avs) (hw:Rch P r (s::ts) ds):∃(x:ByteArray) (ds':List (DataW H)) (l:List AV),avs=.sc (.string x)::l /\ x.size <=r /\ vE P ts ds' l /\ Rch P r ts ds':=by
 obtain ⟨d,ds',as,l,rfl,rfl,h1,h2⟩:=znU h;obtain ⟨x,rfl,hx,rfl⟩:=zFK hu h1;obtain ⟨w1,w2⟩:=zoe hw;refine ⟨x,ds',l,by rw [zod hu rfl],?_,h2,w2⟩;simp only [DataW.weights,List.all_cons,List.all_nil,Bool.and_true,decide_eq_true_eq]at w1;simpa using w1
theorem zHt (hu:P.underlying i=some (.int .i64)) (h:vE P (i::ts) ds avs) (hw:Rch P r (i::ts) ds):∃(n:Int) (ds':List (DataW H)) (l:List AV),avs=.sc (.int .i64 n)::l /\ (-9223372036854775808 <=n /\ n <=9223372036854775807) /\ vE P ts ds' l /\ Rch P r ts ds':=by
 obtain ⟨d,ds',as,l,rfl,rfl,h1,h2⟩:=znU h;obtain ⟨n,rfl,hn,rfl⟩:=zFR hu h1;exact ⟨n,ds',l,by rw [zod hu rfl],i64_in hn,h2,(zoe hw).2⟩
end
end
def qC (n:ByteArray):ByteArray:=if n=⟨#[]⟩ then ⟨#[]⟩ else zV n.size++⟨#[58]⟩++n
def hdT (k:Int) (n:ByteArray):ByteArray:=ltr k++qC n
mutual
def T.text:T -> ByteArray
 | .mk k n l=>if l.isEmpty && !(decide (k=3)) then hdT k n else hdT k n++⟨#[40]⟩++yv l++⟨#[41]⟩
def yv:List T -> ByteArray
 |[]=>⟨#[]⟩
 |t::l=>t.text++jv l
def jv:List T -> ByteArray
 |[]=>⟨#[]⟩
 |t::l=>⟨#[44]⟩++t.text++jv l
end
theorem T.text_def:∀t:T,t.text=if t.kids.isEmpty && !(decide (t.kind=3)) then hdT t.kind t.name else hdT t.kind t.name++⟨#[40]⟩++yv t.kids++⟨#[41]⟩
 | .mk _ _ _=>by rw [T.text];rfl
theorem zdp {x:ByteArray}:x++⟨#[]⟩=x:=by apply kw;simp [ByteArray.data_append]
theorem zzr {x:ByteArray}:(⟨#[]⟩:ByteArray)++x=x:=by apply kw;simp [ByteArray.data_append]
theorem zoK:∀{l m:List T},jv (l++m)=jv l++jv m
 |[],m=>by simp only [jv,List.nil_append,zzr]
 |t::l,m=>by simp only [jv,List.cons_append,zoK,zda]
theorem zG2 {l:List T} {k:T}:yv (l++[k])=if l.isEmpty then k.text else yv l++⟨#[44]⟩++k.text:=by
 cases l with
 |nil=>simp only [List.nil_append,yv,jv,zdp];rfl
 |cons t l=>simp only [List.cons_append,yv,zoK,jv,zdp,zda,List.isEmpty_cons];rfl
theorem zF3 {l:List T} {i:Nat} {k:T} (h:l[i]?=some k):yv (l.take (i+1))=if i=0 then k.text else yv (l.take i)++⟨#[44]⟩++k.text:=by
 rw [List.take_add_one,h,Option.toList_some,zG2];have hi:=(List.getElem?_eq_some_iff.1 h).1;by_cases h0:i=0
 ·subst h0;simp
 ·rw [if_neg h0,if_neg];rw [List.isEmpty_iff,List.take_eq_nil_iff];rintro (h|h)
  ·exact h0 h
  ·subst h;simp at hi
theorem ztT:∀{l:List T},zaQ (l.map T.text) ⟨#[44]⟩=yv l
 |[]=>by unfold zaQ;rfl
 |t::l=>by
  have tail:∀l:List T,(⟨(Lib.joinTail [44] (l.map (fun t=>t.text.data.toList))).toArray⟩:ByteArray)=jv l:=by
   intro l
   induction l with
   |nil=>rfl
   |cons t l ih=>
    rw [jv,<- ih];apply kw;simp [Lib.joinTail,ByteArray.data_append]
  unfold zaQ;simp only [List.map_cons,List.map_map];rw [Lib.join_cons,yv,<- tail l];apply kw;simp only [ByteArray.data_append];simp;rfl
theorem zcT {k:Int}:(ltr k).size=1:=rfl
theorem wF {n:Nat} (h:n <=9223372036854775807):(zV n).size <=20:=Nat.le_succ_of_le (zfd 18 n (by omega))
theorem zz5 {n:ByteArray} (h:n.size <=9223372036854775807):(qC n).size <=21+n.size:=by
 unfold qC;split
 ·exact Nat.zero_le _
 ·have:=wF h;rw [ByteArray.size_append,ByteArray.size_append];have h1:(⟨#[58]⟩:ByteArray).size=1:=rfl;omega
theorem zll {k:Int} {n:ByteArray} (h:n.size <=9223372036854775807):(hdT k n).size <=22+n.size:=by
 unfold hdT;have:=zz5 h;rw [ByteArray.size_append,zcT];omega
mutual
theorem T.text_size:∀{t:T},t.bulk <=9223372036854775807 -> t.text.size+1 <=8 * t.bulk
 | .mk k n l,h=>by
   rw [T.bulk]at h ⊢;have h1:=@zll k n (by omega);have h2:=@zgD l (by omega);have e1:(⟨#[40]⟩:ByteArray).size=1:=rfl;have e2:(⟨#[41]⟩:ByteArray).size=1:=rfl;rw [T.text];split
   ·omega
   ·simp only [ByteArray.size_append];omega
theorem zgD:∀{l:List T},yi l <=9223372036854775807 -> (yv l).size <=8 * yi l
 |[],_=>Nat.zero_le _
 |t::l,h=>by
  rw [yi]at h ⊢;have h1:=@T.text_size t (by omega);have h2:=@zqB l (by omega);rw [yv,ByteArray.size_append];omega
theorem zqB:∀{l:List T},yi l <=9223372036854775807 -> (jv l).size <=8 * yi l
 |[],_=>Nat.zero_le _
 |t::l,h=>by
  rw [yi]at h ⊢;have h1:=@T.text_size t (by omega);have h2:=@zqB l (by omega);have e1:(⟨#[44]⟩:ByteArray).size=1:=rfl;rw [jv,ByteArray.size_append,ByteArray.size_append];omega
end
theorem T.bulk_kid {t u:T} (h:u∈t.kids):u.bulk+4 <=t.bulk:=by
 obtain ⟨k,n,l⟩:=t;have:=zmf (l:=l) u h;rw [T.bulk];omega
theorem T.bulk_name {t:T}:t.name.size+4 <=t.bulk:=by
 obtain ⟨k,n,l⟩:=t;rw [T.bulk];show n.size+4 <=_;omega
theorem T.bulk_len {t:T}:t.kids.length+4 <=t.bulk:=by
 obtain ⟨k,n,l⟩:=t;have:=@zlG l;rw [T.bulk];show l.length+4 <=_;omega
theorem T.bulk_kids {t:T}:yi t.kids+4 <=t.bulk:=by
 obtain ⟨k,n,l⟩:=t;rw [T.bulk];show yi l+4 <=_;omega
theorem T.fits_bulk {t:T} (h:t.bulk <=1099511627776):t.fits:=T.fits_bd (r:=48 * 1099511627776) (by omega) (T.bd_bulk h)
theorem znG:∀{l m:List T},yi (l++m)=yi l+yi m
 |[],m=>by simp [yi]
 |t::l,m=>by rw [List.cons_append,yi,yi,znG];omega
theorem zxQ {l:List T} {i:Nat}:yi (l.take i) <=yi l:=by
 conv=>rhs;rw [<- List.take_append_drop i l,znG]
 omega
section
variable {S:AS}
theorem zkw {m:Nat}:zq (m:Int)=zV m:=by
 unfold zq Lib.itoa zV;rw [if_neg (by omega)];rfl
theorem zsW:∀{ws:List ByteArray},zb4 (zS ws)=some ws
 |[]=>rfl
 |w::ws=>by
  have:=@zsW ws;unfold zS at this ⊢;simp only [List.map_cons,zb4,this,Option.map_some]
theorem zDw {v:AV} {sep:ByteArray} {ws:List ByteArray} (hr:v.isReg=false) (h:zv 1 S v=some (zS ws)) (hl:ws.length <=140737488355328) (hj:(zaQ ws sep).size <=140737488355328):
 call 324 [v,.sc (.string sep)] S=some (.sc (.string (zaQ ws sep)),S):=by
 rw [zfx zxa (by simp [hr])];have hj':(Lib.join (ws.map (·.data.toList)) sep.data.toList).length <=140737488355328:=by
  have:(zaQ ws sep).size=(Lib.join (ws.map (·.data.toList)) sep.data.toList).length:=by
   unfold zaQ;show (List.toArray _).size=_;rw [List.size_toArray]
  omega
 simp only [zbC,h,Option.bind_some,zsW,hl,hj',and_self,if_true]
theorem Own.rows0 {S0 S':AS} {v:AV} {rs:List (List AV)} (h:Own S0 S' 1 v rs):zv 1 S' v=some rs:=by
 rcases h.h with ⟨z,rfl,hz⟩|⟨id,rfl,hh,hid,hlt⟩
 ·rcases hz with hz|rfl
  ·subst hz;simp [zv]
  ·simp [zv]
 ·simp only [zv,if_true];exact wD hh (Nat.zero_le _)
theorem zi2 {t:T} {h:ByteArray} {S S0:AS} (hb:t.bulk <=1099511627776) (hh:h.size <=1099511627798)
 (ih:∀u∈t.kids,∀S,call 227 [.agg u.cells] S=some (.sc (.string u.text),S)) (hS0:S0.ro <=S0.n) (e:Nat -> AV) (rg:Nat -> Option (List AV))
 (hq:NQ [6,39,40,41,42,43,44,45,46,47] [6] e) (h3:e 3=.sc (.string h)) (h4:e 4=.lst 0 true []) (h36:e 36=zf t.kids) (h37:e 37=.sc (.int .i64 (t.kids.length:Nat))) (h38:e 38=.i 0) (ks:List Kn)
 (hex:∀e rg S' v,e 3=.sc (.string h) -> e 4=v -> v.isReg=false -> zv 1 S' v=some (zS (t.kids.map T.text)) -> fin [.tmp 2] (unw AA (some (.exit 0,st 54 e rg S')) ks)=some (.sc (.string (h++⟨#[40]⟩++yv t.kids++⟨#[41]⟩)),S')):
 zW S (fin [.tmp 2] (zA AA (.loop [6,39,40,41,42,43,44,45,46,47] [6] zhg) (st 54 e rg S0) ks))=some (.sc (.string (h++⟨#[40]⟩++yv t.kids++⟨#[41]⟩)),S):=by
 have hlen:=t.bulk_len;refine ko (α:=Nat) (R:=fun _ r=>zW S r=some (.sc (.string (h++⟨#[40]⟩++yv t.kids++⟨#[41]⟩)),S)) (fun i e rg S'=>i <=t.kids.length /\ NQ [6,39,40,41,42,43,44,45,46,47] [6] e /\ e 3=.sc (.string h) /\ e 36=zf t.kids /\ e 37=.sc (.int .i64 (t.kids.length:Nat)) /\ e 38=.sc (.int .i64 (i:Nat)) /\ Own S0 S' 1 (e 4) (zS ((t.kids.take i).map T.text))) (fun i=>t.kids.length - i) (fun _ _ _ _ h=>h.2.1) ?_ 0 _ _ _ ⟨by omega,hq,h3,h36,h37,h38,by rw [h4];exact zhX hS0⟩;intro kk hkk i e rg S' ⟨hi,hq,h3,h36,h37,h38,hO⟩ ihl;by_cases hc:i < t.kids.length
 ·obtain ⟨k,hk⟩:=jK hc;have w2:IntKind.i64.wrap ((i:Int)+1)=((i+1:Nat):Int):=w64 (by omega);have hil:(t.kids.take i).length=i:=by rw [List.length_take];omega
  obtain ⟨v',S'',ha,hO',q1,q2,q3⟩:=hO.push (n:=i) (bytes:=16) (r:=[.sc (.string k.text)]) (f:=true) (d:=some 46) (rg:=upd (upd (zb2 [6] rg) 6 zT) 6 k.cells) (by rw [zjc,List.length_map,hil]) (by omega);have h4r:=hO.reg;have e227:=ih k (List.mem_of_getElem? hk);rw [<- zGR]at hO';simp only [zT]at ha;simp [-zg,zhg,h3,h36,h37,h38,hc,zI hk,e227,h4r,zw];rw [ha];simp [-zg,q1,w2,h3,h36,h37,h38];refine ihl (i+1) _ _ _ (by omega) (fun _ h=>h) ?_;refine ⟨by omega,?_,by simp [h3],by simp [h36],by simp [h37],by simp,?_⟩
  ·repeat (first|exact zaH hq|refine yh ?_ (by simp [q1]))
  ·rw [List.take_add_one,hk];simpa using hO'
 ·have hi':i=t.kids.length:=by omega
  subst hi';rw [List.take_length]at hO;simp [-zg,zhg,h37,h38];rw [hkk];simp [-zg];rw [hex _ _ _ (e 4) (by simp [h3]) (by simp) hO.reg hO.rows0];simp
end
section
variable {S:AS}
set_option maxHeartbeats 2000000 in
theorem zsX:∀(n:Nat) (t:T) (S:AS),sizeOf t < n -> t.bulk <=1099511627776 -> t.rshp=true -> call 227 [.agg t.cells] S=some (.sc (.string t.text),S)
 |0,_,_,h,_,_=>by omega
 |n+1,t,S,hn,hb,hr=>by
  have ih:∀u∈t.kids,∀S,call 227 [.agg u.cells] S=some (.sc (.string u.text),S):=fun u hu S=>zsX n u S (by have:=T.kid_lt hu;omega) (by have:=T.bulk_kid hu;omega) (by
   rw [t.rshp_def,Bool.and_eq_true]at hr;exact zbR.1 hr.2 u hu)
  rw [zh zG6 rfl (by simp) rfl];rw [t.rshp_def,Bool.and_eq_true]at hr;obtain ⟨h1,h2,h3⟩:=T.one_iff.1 hr.1;have hlen:=t.bulk_len;have hname:=t.bulk_name;have hts:=T.text_size (t:=t) (by omega);have hks:=zgD (l:=t.kids) (by have:=t.bulk_kids;omega);have hbk:=t.bulk_kids;have hhd:=@zll t.kind t.name (by omega);have e40:(⟨#[40]⟩:ByteArray).size=1:=rfl;have e41:(⟨#[41]⟩:ByteArray).size=1:=rfl;have e58:(⟨#[58]⟩:ByteArray).size=1:=rfl;have hJ:(zaQ (t.kids.map T.text) ⟨#[44]⟩).size <=140737488355328:=by rw [ztT];omega
  have fin227:∀(h:ByteArray),h.size <=1099511627798 -> ∀e rg S' v,e 3=.sc (.string h) -> e 4=v -> v.isReg=false -> zv 1 S' v=some (zS (t.kids.map T.text)) -> fin [.tmp 2] (zA AA (.seq (.ops [
   ⟨some 48,.pur .mov,[.t 3],none⟩,
   ⟨some 49,.pur (.bin .add),[.t 48,.k (.s ⟨#[40]⟩)],none⟩,
   ⟨some 50,.pur .mov,[.t 4],none⟩,
   ⟨some 51,.call 324,[.t 50,.k (.s ⟨#[44]⟩)],none⟩,
   ⟨some 52,.pur (.bin .add),[.t 49,.t 51],none⟩,
   ⟨some 53,.pur (.bin .add),[.t 52,.k (.s ⟨#[41]⟩)],none⟩,
   ⟨some 2,.pur .mov,[.t 53],none⟩]) .ret) (st 54 e rg S') [])=some (.sc (.string (h++⟨#[40]⟩++yv t.kids++⟨#[41]⟩)),S'):=by
   intro h hh e rg S' v g3 g4 gr grow;have j:=zDw (S:=S') (sep:=⟨#[44]⟩) gr grow (by rw [List.length_map];omega) hJ;rw [ztT]at j;have p1:pev (.bin .add) [.sc (.string h),.s ⟨#[40]⟩]=some (.sc (.string (h++⟨#[40]⟩))):=yS (by omega);have p2:=yS (x:=h++⟨#[40]⟩) (y:=yv t.kids) (by rw [ByteArray.size_append];omega);have p3:pev (.bin .add) [.sc (.string (h++⟨#[40]⟩++yv t.kids)),.s ⟨#[41]⟩]=some (.sc (.string (h++⟨#[40]⟩++yv t.kids++⟨#[41]⟩))):=yS (by rw [ByteArray.size_append,ByteArray.size_append];omega);simp [g3,g4,gr,p1,p2,p3,j]
  have hemp:(t.kids.isEmpty && !(decide (t.kind=3)))=(decide ((t.kids.length:Int)=0) && !(decide (t.kind=3))):=by
   congr 1;cases t.kids<;>simp<;>omega
  rw [T.text_def,hemp];have w58:pev (.bin .add) [.sc (.string (zV t.name.size)),.s ⟨#[58]⟩]=some (.sc (.string (zV t.name.size++⟨#[58]⟩))):=yS (by have:=wF (n:=t.name.size) (by omega);omega);have wn:=yS (x:=zV t.name.size++⟨#[58]⟩) (y:=t.name) (by have:=wF (n:=t.name.size) (by omega);rw [ByteArray.size_append];omega);have wl:=yS (x:=ltr t.kind) (y:=zV t.name.size++⟨#[58]⟩++t.name) (by have:=wF (n:=t.name.size) (by omega);rw [ByteArray.size_append,ByteArray.size_append,zcT];omega);have e193:∀S,call 193 [.sc (.int .i64 (t.name.size:Int))] S=some (.sc (.string (zV t.name.size)),S):=fun S=>by rw [zeE (by unfold inI;omega),zkw]
  have kA:=zfl h1;have hL1:(ltr t.kind).size=1:=rfl;by_cases hn0:t.name=⟨#[]⟩
  ·have hd:hdT t.kind t.name=ltr t.kind:=by unfold hdT qC;rw [if_pos hn0,zdp]
   rw [hd]at hhd ⊢;generalize ltr t.kind=L at *;by_cases hem:(t.kids.length:Int)=0
   ·by_cases hk3:t.kind=3
    ·simp [-zg,zaJ,zbX,w0,kA,hn0,hem,eq_true hk3];refine zi2 (h:=L) hb (by omega) ih (Nat.le_refl _) _ _ ?_ (by simp) (by simp) (by simp) (by simp [hem]) (by simp) _ ?_
     ·repeat (first|exact vx rfl|refine yh ?_ (by simp))
     ·intro e rg S' v g3 g4 gr grow;simpa [g4,gr] using fin227 _ (by omega) e rg S' v g3 g4 gr grow
    ·simp [zaJ,zbX,w0,kA,hn0,hem,hk3]
   ·have hem':¬t.kids=[]:=fun h=>hem (by rw [h];rfl);simp [-zg,zaJ,zbX,w0,kA,hn0,hem,hem'];refine zi2 (h:=L) hb (by omega) ih (Nat.le_refl _) _ _ ?_ (by simp) (by simp) (by simp) (by simp [hem]) (by simp) _ ?_
    ·repeat (first|exact vx rfl|refine yh ?_ (by simp))
    ·intro e rg S' v g3 g4 gr grow;simpa [g4,gr] using fin227 _ (by omega) e rg S' v g3 g4 gr grow
  ·have hd:hdT t.kind t.name=ltr t.kind++(zV t.name.size++⟨#[58]⟩++t.name):=by unfold hdT qC;rw [if_neg hn0]
   rw [hd]at hhd ⊢;generalize ltr t.kind=L at *;generalize hH:L++(zV t.name.size++⟨#[58]⟩++t.name)=H at *;by_cases hem:(t.kids.length:Int)=0
   ·by_cases hk3:t.kind=3
    ·simp [-zg,zaJ,zbX,w0,kA,hn0,hem,eq_true hk3,e193,w58,wn,wl];refine zi2 (h:=H) hb (by omega) ih (Nat.le_refl _) _ _ ?_ (by simp) (by simp) (by simp) (by simp [hem]) (by simp) _ ?_
     ·repeat (first|exact vx rfl|refine yh ?_ (by simp))
     ·intro e rg S' v g3 g4 gr grow;simpa [g4,gr] using fin227 _ (by omega) e rg S' v g3 g4 gr grow
    ·simp [zaJ,zbX,w0,kA,hn0,hem,hk3,e193,w58,wn,wl]
   ·have hem':¬t.kids=[]:=fun h=>hem (by rw [h];rfl);simp [-zg,zaJ,zbX,w0,kA,hn0,hem,hem',e193,w58,wn,wl];refine zi2 (h:=H) hb (by omega) ih (Nat.le_refl _) _ _ ?_ (by simp) (by simp) (by simp) (by simp [hem]) (by simp) _ ?_
    ·repeat (first|exact vx rfl|refine yh ?_ (by simp))
    ·intro e rg S' v g3 g4 gr grow;simpa [g4,gr] using fin227 _ (by omega) e rg S' v g3 g4 gr grow
end
def zoR:List (List AV):=[[.s ⟨#[100]⟩],[.s ⟨#[97]⟩],[.s ⟨#[112]⟩],[.s ⟨#[101]⟩],[.s ⟨#[109]⟩],[.s ⟨#[104]⟩],[.s ⟨#[107]⟩],[.s ⟨#[117]⟩],[.s ⟨#[115]⟩],[.s ⟨#[120]⟩]]
theorem zCu {k:Int} (h:knd k=true):pev (.iaddr 1) [.lst 1 true zoR,.sc (.int .i64 (IntKind.i64.wrap (k - 1)))]=some (.iptr [.sc (.string (ltr k))]):=by
 rcases zcz h with rfl|rfl|rfl|rfl|rfl|rfl|rfl|rfl|rfl|rfl<;>rfl
section
variable {S:AS}
theorem zHV:∀{n:Nat} {S:AS},n <=9223372036854775807 -> call 420 [.sc (.int .i64 (n:Int))] S=some (.sc (.string (zV n)),S):=by
 intro n
 induction n using Nat.strongRecOn with
 |_ n ih=>
  intro S hn;rw [zh zBs rfl (by simp) rfl];have hd:n % 10 < 10:=Nat.mod_lt _ (by omega);have hbyte:∀m:Nat,m < 10 -> pev .bytesStr [AV.lst 1 true [[.sc (.int .u8 (IntKind.u8.wrap (IntKind.i64.wrap (48+(m:Int)))))]]]=some (.sc (.string (jB m))):=fun m hm=>by
   rw [zgP hm];exact zju
  by_cases h:n < 10
  ·have h':(n:Int) < 10:=by omega
   simp [zeZ,zlK,h',zw,hbyte n h,zce h]
  ·have h':¬(n:Int) < 10:=by omega
   have e420:=fun S=>ih (n / 10) (by omega) (S:=S) (by omega);have hb:=hbyte (n % 10) hd;have hsz:(jB (n % 10)).size=1:=rfl;have hs:=yS (x:=zV (n / 10)) (y:=jB (n % 10)) (by have:=wF (n:=n / 10) (by omega);omega);rw [<- zen (by omega)]at hs;rw [show ((n % 10:Nat):Int)=(n:Int) % 10 by omega]at hb;rw [show ((n / 10:Nat):Int)=(n:Int) / 10 by omega]at e420;have hq:=@zgU n hn;have hr:=@zhc n;rw [show ((n % 10:Nat):Int)=(n:Int) % 10 by omega]at hr;rw [show ((n / 10:Nat):Int)=(n:Int) / 10 by omega]at hq;simp [zeZ,zlK,h',zw,hq,hr,e420,hb,hs]
theorem zo4 {t:T} {h:ByteArray} {S S0:AS} (hb:t.bulk <=1099511627776) (hh:h.size <=1099511627799)
 (ih:∀u∈t.kids,∀S,call 347 [.agg u.cells] S=some (.sc (.string u.text),S)) (e:Nat -> AV) (rg:Nat -> Option (List AV))
 (h1:e 1=.reg 1 0) (hr:rg 1=some t.cells) (h4:e 4=.sc (.string h)) (h5:e 5=.i 0) (ks:List Kn)
 (hex:∀e rg S',e 4=.sc (.string (h++yv t.kids)) -> fin [.tmp 2] (unw AA (some (.exit 0,st 55 e rg S')) ks)=some (.sc (.string (h++yv t.kids++⟨#[41]⟩)),S')):
 zW S (fin [.tmp 2] (zA AA (.loop [6,33,34,35,36,37,38,39,40,41,42,43,44,45,46,47,48,49,50,51,52] [] ze6) (st 55 e rg S0) ks))=some (.sc (.string (h++yv t.kids++⟨#[41]⟩)),S):=by
 have hlen:=t.bulk_len;have hbk:=t.bulk_kids;have htk:∀i,(yv (t.kids.take i)).size <=8 * 1099511627776:=fun i=>by
  have h1:=@zxQ t.kids i;have h2:=zgD (l:=t.kids.take i) (by omega);omega
 have e44:(⟨#[44]⟩:ByteArray).size=1:=rfl;refine jY (α:=Nat) (R:=fun _ r=>zW S r=some (.sc (.string (h++yv t.kids++⟨#[41]⟩)),S)) (fun i e rg S'=>i <=t.kids.length /\ e 1=.reg 1 0 /\ rg 1=some t.cells /\ e 4=.sc (.string (h++yv (t.kids.take i))) /\ e 5=.sc (.int .i64 (i:Nat))) (fun i=>t.kids.length - i) ?_ 0 _ _ _ ⟨by omega,h1,hr,by rw [h4];simp only [List.take_zero,yv,zdp],h5⟩;intro kk hkk i e rg S' ⟨hi,h1,hr,h4,h5⟩ ihl;by_cases hc:i < t.kids.length
 ·obtain ⟨k,hk⟩:=jK hc;have w2:IntKind.i64.wrap ((i:Int)+1)=((i+1:Nat):Int):=w64 (by omega);have e347:=ih k (List.mem_of_getElem? hk);have hkb:=T.bulk_kid (List.mem_of_getElem? hk);have hkt:=T.text_size (t:=k) (by omega);have hti:=htk i;have htake:=zF3 hk;by_cases hi0:i=0
  ·subst hi0;rw [if_pos rfl]at htake;have p:=yS (x:=h) (y:=k.text) (by omega);simp only [List.take_zero,yv,zdp]at h4;have hk0:pev (.iaddr 3) [zf t.kids,.i 0]=some (.iptr k.cells):=zI (i:=0) hk;have w20:IntKind.i64.wrap 1=1:=rfl;simp [-zg,ze6,h1,hr,h4,h5,hc,hk0,e347,w20,p];refine ihl 1 _ _ _ (by omega) (fun _ h=>h) ?_;exact ⟨by omega,by simp [h1],by simp [hr],by simp only [zk];simp;rw [htake],by simp⟩
  ·rw [if_neg hi0]at htake;have hi1:(0:Int) < i:=by omega
   have hi2:0 < i:=by omega
   have p1:pev (.bin .add) [.sc (.string (h++yv (t.kids.take i))),.s ⟨#[44]⟩]=some (.sc (.string (h++yv (t.kids.take i)++⟨#[44]⟩))):=yS (by rw [ByteArray.size_append];omega);have p2:=yS (x:=h++yv (t.kids.take i)++⟨#[44]⟩) (y:=k.text) (by rw [ByteArray.size_append,ByteArray.size_append];omega);simp [-zg,ze6,h1,hr,h4,h5,hc,hi1,hi2,zI hk,e347,w2,p1,p2];refine ihl (i+1) _ _ _ (by omega) (fun _ h=>h) ?_;refine ⟨by omega,by simp [h1],by simp [hr],?_,by simp⟩;simp;rw [htake];simp only [zda]
 ·have hi':i=t.kids.length:=by omega
  subst hi';rw [List.take_length]at h4;simp [-zg,ze6,h1,hr,h4,h5];rw [hkk];simp [-zg];rw [hex _ _ _ (by simp [h4])];simp
set_option maxHeartbeats 2000000 in
theorem znt:∀(n:Nat) (t:T) (S:AS),sizeOf t < n -> t.bulk <=1099511627776 -> t.rshp=true -> call 347 [.agg t.cells] S=some (.sc (.string t.text),S)
 |0,_,_,h,_,_=>by omega
 |n+1,t,S,hn,hb,hr=>by
  have ih:∀u∈t.kids,∀S,call 347 [.agg u.cells] S=some (.sc (.string u.text),S):=fun u hu S=>znt n u S (by have:=T.kid_lt hu;omega) (by have:=T.bulk_kid hu;omega) (by
   rw [t.rshp_def,Bool.and_eq_true]at hr;exact zbR.1 hr.2 u hu)
  rw [zh zGn rfl (by simp) rfl];rw [t.rshp_def,Bool.and_eq_true]at hr;obtain ⟨h1,h2,h3⟩:=T.one_iff.1 hr.1;have hlen:=t.bulk_len;have hname:=t.bulk_name;have hts:=T.text_size (t:=t) (by omega);have hks:=zgD (l:=t.kids) (by have:=t.bulk_kids;omega);have hbk:=t.bulk_kids;have hhd:=@zll t.kind t.name (by omega);have e40:(⟨#[40]⟩:ByteArray).size=1:=rfl;have e41:(⟨#[41]⟩:ByteArray).size=1:=rfl;have e58:(⟨#[58]⟩:ByteArray).size=1:=rfl;have hemp:(t.kids.isEmpty && !(decide (t.kind=3)))=decide (t.kind <=2):=by
   have hk:=zcz h1;by_cases hc:t.kids=[]
   ·have hz:t.kids.length=0:=by rw [hc];rfl
    rw [hz]at h3;have:t.kind=3 \/ t.kind <=2:=by
     rcases hk with h|h|h|h|h|h|h|h|h|h<;>rw [h]at h3 ⊢<;>simp [kdn]at h3<;>omega
    rw [hc];by_cases h3':t.kind=3
    ·simp [h3']
    ·have:t.kind <=2:=by omega
     simp [h3',this]
   ·have:¬t.kind <=2:=by
     intro h;have:t.kids.length=0:=by
      rcases (show t.kind=1 \/ t.kind=2 by omega) with h|h<;>rw [h]at h3<;>simp [kdn]at h3<;>simp [h3]
     exact hc (List.length_eq_zero_iff.1 this)
    simp [hc,this]
  rw [T.text_def,hemp];have e420:∀S,call 420 [.sc (.int .i64 (t.name.size:Int))] S=some (.sc (.string (zV t.name.size)),S):=fun S=>zHV (by omega);have kA:=zCu h1;unfold zoR at kA;have hL1:(ltr t.kind).size=1:=rfl;have fin347:∀(h:ByteArray),h.size <=1099511627799 -> ∀e rg S',e 4=.sc (.string (h++yv t.kids)) -> fin [.tmp 2] (zA AA (.seq (.ops [
   ⟨some 53,.pur .mov,[.t 4],none⟩,
   ⟨some 54,.pur (.bin .add),[.t 53,.k (.s ⟨#[41]⟩)],none⟩,
   ⟨some 2,.pur .mov,[.t 54],none⟩]) .ret) (st 55 e rg S') [])=some (.sc (.string (h++yv t.kids++⟨#[41]⟩)),S'):=by
   intro h hh e rg S' g4;have p3:pev (.bin .add) [.sc (.string (h++yv t.kids)),.s ⟨#[41]⟩]=some (.sc (.string (h++yv t.kids++⟨#[41]⟩))):=yS (by rw [ByteArray.size_append];omega);simp [g4,p3]
  have p40:∀(h:ByteArray),h.size <=1099511627798 -> pev (.bin .add) [.sc (.string h),.s ⟨#[40]⟩]=some (.sc (.string (h++⟨#[40]⟩))):=fun h hh=>yS (by omega);have wl:=yS (x:=ltr t.kind) (y:=zV t.name.size) (by have:=wF (n:=t.name.size) (by omega);rw [zcT];omega);have w58:pev (.bin .add) [.sc (.string (ltr t.kind++zV t.name.size)),.s ⟨#[58]⟩]=some (.sc (.string (ltr t.kind++zV t.name.size++⟨#[58]⟩))):=yS (by have:=wF (n:=t.name.size) (by omega);rw [ByteArray.size_append,zcT];omega);have wn:=yS (x:=ltr t.kind++zV t.name.size++⟨#[58]⟩) (y:=t.name) (by have:=wF (n:=t.name.size) (by omega);rw [ByteArray.size_append,ByteArray.size_append,zcT];omega);by_cases hn0:t.name=⟨#[]⟩
  ·have hd:hdT t.kind t.name=ltr t.kind:=by unfold hdT qC;rw [if_pos hn0,zdp]
   rw [hd]at hhd ⊢;generalize ltr t.kind=L at *;by_cases hk2:t.kind <=2
   ·simp [zbV,zfY,zw,kA,hn0,hk2]
   ·have q:=p40 L (by omega);simp [-zg,zbV,zfY,zw,kA,hn0,hk2,q];refine zo4 (h:=L++⟨#[40]⟩) hb (by rw [ByteArray.size_append];omega) ih _ _ ?_ ?_ ?_ ?_ _ ?_
    ·simp
    ·simp
    ·simp
    ·simp
    intro e rg S' g4;simpa [g4] using fin347 (L++⟨#[40]⟩) (by rw [ByteArray.size_append];omega) e rg S' g4
  ·have hd:hdT t.kind t.name=ltr t.kind++zV t.name.size++⟨#[58]⟩++t.name:=by unfold hdT qC;rw [if_neg hn0];simp only [zda]
   rw [hd]at hhd ⊢;generalize ltr t.kind=L at *;generalize hH:L++zV t.name.size++⟨#[58]⟩++t.name=H at *;by_cases hk2:t.kind <=2
   ·simp [zbV,zfY,zw,kA,hn0,hk2,e420,wl,w58,wn]
   ·have q:=p40 H (by omega);simp [-zg,zbV,zfY,zw,kA,hn0,hk2,e420,wl,w58,wn,q];refine zo4 (h:=H++⟨#[40]⟩) hb (by rw [ByteArray.size_append];omega) ih _ _ ?_ ?_ ?_ ?_ _ ?_
    ·simp
    ·simp
    ·simp
    ·simp
    intro e rg S' g4;simpa [g4] using fin347 (H++⟨#[40]⟩) (by rw [ByteArray.size_append];omega) e rg S' g4
theorem zjZ {t:T} (h:t.bulk <=1099511627776) (hr:t.rshp=true):call 227 [.agg t.cells] S=some (.sc (.string t.text),S):=zsX _ t S (Nat.lt_succ_self _) h hr
theorem zEy {t:T} (h:t.bulk <=1099511627776) (hr:t.rshp=true):call 347 [.agg t.cells] S=some (.sc (.string t.text),S):=znt _ t S (Nat.lt_succ_self _) h hr
end
def qD (k:Int) (l:List T):Bool:=if k=9 then (match l with|a::b::_=>!(sLt b.text a.text)|_=>true) else true
mutual
def T.ord:T -> Bool
 | .mk k _ l=>qD k l && zbT l
def zbT:List T -> Bool
 |[]=>true
 |t::l=>t.ord && zbT l
end
mutual
def T.ofit:T -> Prop
 | .mk k _ l=>(k=9 -> ∀u∈l,u.bulk <=1099511627776) /\ zdN l
def zdN:List T -> Prop
 |[]=>True
 |t::l=>t.ofit /\ zdN l
end
theorem T.ord_def:∀t:T,t.ord=(qD t.kind t.kids && zbT t.kids)
 | .mk _ _ _=>by rw [T.ord];rfl
theorem zcR:∀{l:List T},zbT l=l.all T.ord
 |[]=>rfl
 |t::l=>by rw [zbT,List.all_cons,zcR]
theorem zo6:∀{l:List T},zdN l↔∀t∈l,t.ofit
 |[]=>by simp [zdN]
 |t::l=>by simp [zdN,zo6 (l:=l)]
theorem T.ofit_def:∀t:T,t.ofit↔(t.kind=9 -> ∀u∈t.kids,u.bulk <=1099511627776) /\ ∀u∈t.kids,u.ofit
 | .mk _ _ _=>by rw [T.ofit,zo6];rfl
mutual
theorem T.ofit_bulk:∀{t:T},t.bulk <=1099511627776 -> t.ofit
 | .mk k n l,h=>by
   rw [T.bulk]at h;exact ⟨fun _ u hu=>by have:=zmf (l:=l) u hu;omega,zs6 (by omega)⟩
theorem zs6:∀{l:List T},yi l <=1099511627776 -> zdN l
 |[],_=>trivial
 |t::l,h=>by
  rw [yi]at h;exact ⟨T.ofit_bulk (by omega),zs6 (by omega)⟩
end
def T.right (t:T):Bool:=t.rshp && decide (t.dp <=60) && t.ord
theorem T.right_iff {t:T}:t.right=true↔t.rshp=true /\ t.dp <=60 /\ t.ord=true:=by
 unfold T.right;simp only [Bool.and_eq_true,decide_eq_true_eq,and_assoc]
theorem T.rshp_kid {t u:T} (h:t.rshp=true) (hu:u∈t.kids):u.rshp=true:=by
 rw [t.rshp_def,Bool.and_eq_true]at h;exact zbR.1 h.2 u hu
theorem T.share_kids {t:T} (h:t.rshp=true) (h9:t.kind=9):∃a b,t.kids=[a,b]:=by
 rw [t.rshp_def,Bool.and_eq_true]at h;obtain ⟨_,_,h3⟩:=T.one_iff.1 h.1;have hk:kdn t.kind=2:=by rw [h9];rfl
 have:t.kids.length=2:=by omega
 match hl:t.kids,this with
 |[a,b],_=>exact ⟨a,b,rfl⟩
section
variable {S:AS}
theorem zyB {t:T} (h:∀S,call 222 [.agg t.cells] S=some (.sc (.bool t.ord),S)):call 322 [.agg t.cells] S=some (.sc (.bool (!t.ord)),S):=by
 rw [zh zFZ rfl (by simp) rfl];simp [f322,zp3,h]
theorem zp5:∀(n:Nat) (t:T) (S:AS),sizeOf t < n -> t.fits -> t.ofit -> t.rshp=true -> call 222 [.agg t.cells] S=some (.sc (.bool t.ord),S)
 |0,_,_,h,_,_,_=>by omega
 |n+1,t,S,hn,hf,ho,hr=>by
  obtain ⟨hl,hk⟩:=T.fits_kids hf;obtain ⟨o1,o2⟩:=t.ofit_def.1 ho;rw [zh zBO rfl (by simp) rfl];have e320:=fun S'=>@zn6 S' (.fn 322 [] []) 322 [] t.kids (fun t=>!t.ord) rfl hl (fun u hu S''=>zyB (fun S=>zp5 n u S (by have:=T.kid_lt hu;omega) (hk u hu) (o2 u hu) (T.rshp_kid hr hu)));rw [t.ord_def,zcR,<- zj8];by_cases h9:t.kind=9
  ·obtain ⟨a,b,hab⟩:=T.share_kids hr h9;have ha:a∈t.kids:=by rw [hab];simp
   have hb:b∈t.kids:=by rw [hab];simp
   have ta:=fun S=>@zjZ S a (o1 h9 a ha) (T.rshp_kid hr ha);have tb:=fun S=>@zjZ S b (o1 h9 b hb) (T.rshp_kid hr hb);have l0:pev (.iaddr 3) [zf t.kids,.i 0]=some (.iptr a.cells):=zI (i:=0) (by rw [hab];rfl);have l1:pev (.iaddr 3) [zf t.kids,.i 1]=some (.iptr b.cells):=zI (i:=1) (by rw [hab];rfl);have hsh:qD t.kind t.kids=!(sLt b.text a.text):=by unfold qD;rw [if_pos h9,hab]
   rw [hsh];cases hs:sLt b.text a.text with
   |true=>simp [zcZ,zhS,eq_true h9,l0,l1,ta,tb,hs]
   |false=>simp [zcZ,zhS,eq_true h9,l0,l1,ta,tb,hs,e320]
  ·have hsh:qD t.kind t.kids=true:=by unfold qD;rw [if_neg h9]
   simp [zcZ,zhS,h9,hsh,e320]
theorem zBC {t:T} (hf:t.fits) (ho:t.ofit) (hr:t.rshp=true):call 222 [.agg t.cells] S=some (.sc (.bool t.ord),S):=zp5 _ t S (Nat.lt_succ_self _) hf ho hr
theorem zny {t:T} {S:AS} (hf:t.fits):call 221 [.agg t.cells,.i 60] S=some (.sc (.bool (t.rshp && decide (t.dp <=60))),S):=by
 rw [<- T.shp_eq];exact @zr9 60 t S (by omega) hf
theorem zyE {t:T} (hf:t.fits) (ho:t.ofit):call 116 [.agg t.cells] S=some (.sc (.bool t.right),S):=by
 rw [zh zwF rfl (by simp) rfl];have e1:=fun S=>@zny t S hf;unfold T.right;cases hr:(t.rshp && decide (t.dp <=60)) with
 |false=>rw [hr]at e1;simp [zff,zmL,e1]
 |true=>
  rw [hr]at e1;have e2:=fun S=>@zBC S t hf ho (by rw [Bool.and_eq_true]at hr;exact hr.1);simp [zff,zmL,e1,e2]
def T.txt (t:T):ByteArray:=if t.rshp && decide (t.dp <=60) then t.text else ⟨#[]⟩
theorem zeX {t:T} (hb:t.bulk <=1099511627776):call 121 [.agg t.cells] S=some (.sc (.string t.txt),S):=by
 rw [zh zBm rfl (by simp) rfl];have e1:=fun S=>@zny t S (T.fits_bulk hb);unfold T.txt;cases hr:(t.rshp && decide (t.dp <=60)) with
 |false=>rw [hr]at e1;simp [zfy,zl4,e1]
 |true=>
  rw [hr]at e1;have e2:=fun S=>@zjZ S t hb (by rw [Bool.and_eq_true]at hr;exact hr.1);simp [zfy,zl4,e1,e2]
theorem zm3 {a b:T} (ha:a.bulk <=1099511627776) (hb:b.bulk <=1099511627776):call 229 [.agg a.cells,.agg b.cells] S=some (.sc (.bool (sLt a.txt b.txt)),S):=by
 rw [zh zyN rfl (by simp) rfl];have e1:=fun S=>@zeX S a ha;have e2:=fun S=>@zeX S b hb;simp [zix,zrN,e1,e2]
def qH (a b:T):T:=if sLt b.txt a.txt then .mk 9 ⟨#[]⟩ [b,a] else .mk 9 ⟨#[]⟩ [a,b]
theorem zvo {a b:T} (ha:a.bulk <=1099511627776) (hb:b.bulk <=1099511627776):call 127 [.agg a.cells,.agg b.cells] S=some (.agg (qH a b).cells,S):=by
 rw [zh a127 rfl (by simp) rfl];have e1:=fun S=>@zm3 S b a hb ha;unfold qH;cases hs:sLt b.txt a.txt with
 |true=>rw [hs]at e1;simp [zeQ,zlo,e1,T.cells,yr]
 |false=>rw [hs]at e1;simp [zeQ,zlo,e1,T.cells,yr]
theorem T.text_ne {t:T}:t.text≠⟨#[]⟩:=by
 intro h;have:=congrArg ByteArray.size h;rw [T.text_def]at this;have h1:(hdT t.kind t.name).size=1+(qC t.name).size:=by unfold hdT;rw [ByteArray.size_append,zcT]
 have h0:(⟨#[]⟩:ByteArray).size=0:=rfl;split at this
 ·omega
 ·simp only [ByteArray.size_append]at this;omega
theorem zcy {t:T} (hb:t.bulk <=1099511627776):call 243 [.agg t.cells] S=some (.sc (.string t.txt),S):=by
 rw [zh zzk rfl (by simp) rfl];have hf:=T.fits_bulk hb;have e1:∀S,call 314 [.agg t.cells,.i 61] S=some (.sc (.int .i64 (t.dep 61:Nat)),S):=fun S=>@zj6 61 t S (by omega) hf;have e2:=fun S=>@zuS S t hf;rw [T.dep_eq]at e1;unfold T.txt;by_cases hd:t.dp <=60
 ·have hd':¬((60:Int) < (min 61 t.dp:Nat)):=by omega
  cases hr:t.rshp with
  |false=>rw [hr]at e2;simp [f243,ziv,e1,e2,hd,hd']
  |true=>
   rw [hr]at e2;have e3:=fun S=>@zEy S t hb hr;simp [f243,ziv,e1,e2,e3,hd,hd']
 ·have hd':(60:Int) < (min 61 t.dp:Nat):=by omega
  simp [f243,ziv,e1,hd,hd']
end
theorem zxN {x y:ByteArray}:(sLt x y ||decide (x=y))=!(sLt y x):=by
 rw [zir,zir,Bool.eq_iff_iff];simp only [Bool.or_eq_true,decide_eq_true_eq,Bool.not_eq_true',decide_eq_false_iff_not];have hd:x=y↔x.data.toList=y.data.toList:=⟨fun h=>by rw [h],kw⟩;rw [hd,List.not_lt,List.le_iff_lt_or_eq]
section
variable {S:AS}
theorem ztr:∀(n:Nat) (t:T) (S:AS),sizeOf t < n -> t.bulk <=1099511627776 -> t.rshp=true -> t.dp <=60 -> call 316 [.agg t.cells] S=some (.sc (.bool t.ord),S)
 |0,_,_,h,_,_,_=>by omega
 |n+1,t,S,hn,hb,hr,hd=>by
  have hlen:=t.bulk_len;have hkb:∀u∈t.kids,u.bulk <=1099511627776:=fun u hu=>by have:=T.bulk_kid hu;omega
  have hkd:∀u∈t.kids,u.dp <=60:=fun u hu=>by have:=T.dp_kid hu;omega
  have ih:∀u∈t.kids,∀S,call 316 [.agg u.cells] S=some (.sc (.bool u.ord),S):=fun u hu S=>ztr n u S (by have:=T.kid_lt hu;omega) (hkb u hu) (T.rshp_kid hr hu) (hkd u hu);rw [zh zAs rfl (by simp) rfl];rw [t.ord_def,zcR];simp only [f316];simp [-zg,zpg];refine jY (α:=Nat) (R:=fun _ r=>zW S r=some (.sc (.bool (qD t.kind t.kids && t.kids.all T.ord)),S)) (fun i e rg S'=>i <=t.kids.length /\ e 1=.reg 1 0 /\ rg 1=some t.cells /\ e 3=.sc (.int .i64 (i:Nat)) /\ ∀u∈t.kids.take i,u.ord=true) (fun i=>t.kids.length - i) ?_ 0 _ _ _ ?_;rotate_left
  ·exact ⟨by omega,by simp,by simp,by simp,fun u hu=>by simp at hu⟩
  intro kk hkk i e rg S' ⟨hi,q1,q2,q5,hu⟩ ihl;by_cases hc:i < t.kids.length
  ·obtain ⟨k,hk'⟩:=jK hc;have w2:IntKind.i64.wrap ((i:Int)+1)=((i+1:Nat):Int):=w64 (by omega);have e316:=ih k (List.mem_of_getElem? hk');cases hb:k.ord with
   |false=>
    rw [hb]at e316;have:t.kids.all T.ord=false:=by
     rw [List.all_eq_false];exact ⟨k,List.mem_of_getElem? hk',by simp [hb]⟩
    simp [-zg,zfM,q1,q2,q5,hc,zI hk',e316];rw [hkk,this];simp
   |true=>
    rw [hb]at e316;simp [-zg,zfM,q1,q2,q5,hc,zI hk',e316,w2];refine ihl (i+1) _ _ _ (by omega) (fun _ h=>h) ?_;refine ⟨by omega,by simp [q1],by simp [q2],by simp,fun u hu'=>?_⟩;rw [List.take_add_one,hk']at hu';rcases List.mem_append.1 hu' with hu'|hu'
    ·exact hu u hu'
    ·simp at hu';rw [hu'];exact hb
  ·have hi':i=t.kids.length:=by omega
   subst hi';rw [List.take_length]at hu;have hall:t.kids.all T.ord=true:=List.all_eq_true.2 hu;by_cases h9:t.kind=9
   ·obtain ⟨a,b,hab⟩:=T.share_kids hr h9;have ha:a∈t.kids:=by rw [hab];simp
    have hb:b∈t.kids:=by rw [hab];simp
    have ta:∀S,call 243 [.agg a.cells] S=some (.sc (.string a.text),S):=fun S=>by
     rw [zcy (hkb a ha)];unfold T.txt;rw [if_pos (by rw [T.rshp_kid hr ha];simp [hkd a ha])]
    have tb:∀S,call 243 [.agg b.cells] S=some (.sc (.string b.text),S):=fun S=>by
     rw [zcy (hkb b hb)];unfold T.txt;rw [if_pos (by rw [T.rshp_kid hr hb];simp [hkd b hb])]
    have l0:pev (.iaddr 3) [zf t.kids,.i 0]=some (.iptr a.cells):=zI (i:=0) (by rw [hab];rfl);have l1:pev (.iaddr 3) [zf t.kids,.i 1]=some (.iptr b.cells):=zI (i:=1) (by rw [hab];rfl);have hsh:qD t.kind t.kids=(sLt a.text b.text ||decide (a.text=b.text)):=by unfold qD;rw [if_pos h9,hab,zxN]
    rw [hall,hsh];simp [-zg,zfM,q1,q2,q5];rw [hkk];simp [q1,q2,eq_true h9,l0,l1,ta,tb]
   ·have hsh:qD t.kind t.kids=true:=by unfold qD;rw [if_neg h9]
    rw [hall,hsh];simp [-zg,zfM,q1,q2,q5];rw [hkk];simp [q1,q2,h9]
theorem zvx {t:T} (hb:t.bulk <=1099511627776) (hr:t.rshp=true) (hd:t.dp <=60):call 316 [.agg t.cells] S=some (.sc (.bool t.ord),S):=ztr _ t S (Nat.lt_succ_self _) hb hr hd
theorem zsF {t:T} (hb:t.bulk <=1099511627776):call 219 [.agg t.cells] S=some (.sc (.bool t.right),S):=by
 rw [zh zAR rfl (by simp) rfl];have e1:=fun S=>@zcy S t hb;unfold T.right;unfold T.txt at e1;cases hr:(t.rshp && decide (t.dp <=60)) with
 |false=>rw [hr]at e1;simp only [Bool.false_eq_true,if_false]at e1;simp [zfU,zkl,e1]
 |true=>
  rw [hr]at e1;rw [Bool.and_eq_true,decide_eq_true_eq]at hr;simp only [if_true]at e1;have e2:=fun S=>@zvx S t hb hr.1 hr.2;simp [zfU,zkl,e1,e2,T.text_ne]
def T.fit (t:T):Bool:=t.right && decide (t.dp <=57)
theorem zB6 {t:T}:(((t.dep 61:Nat):Int) <=57)↔t.dp <=57:=by rw [T.dep_eq];omega
theorem zg8 {t:T} (hb:t.bulk <=1099511627776):call 211 [.agg t.cells] S=some (.sc (.bool t.fit),S):=by
 rw [zh zFi rfl (by simp) rfl];have e1:=fun S=>@zsF S t hb;have e2:∀S,call 314 [.agg t.cells,.i 61] S=some (.sc (.int .i64 (t.dep 61:Nat)),S):=fun S=>@zj6 61 t S (by omega) (T.fits_bulk hb);unfold T.fit;cases hr:t.right with
 |false=>rw [hr]at e1;simp [zfn,zl7,e1]
 |true=>rw [hr]at e1;simp [zfn,zl7,e1,e2,zB6]
@[simp] theorem zKY (s:ByteArray):call 212 [.sc (.string s)] S=some (.agg (zJ s).cells,S):=by
 rw [zh a212 rfl (by simp) rfl];simp [zg5,zqs,zJ,T.cells,yr,lstN]
def wY (t:T) (l:ByteArray):Option ByteArray:=if t.kind=1 then jI t.name l else none
theorem zze {t:T} {l:ByteArray} (hl:l.size=1):call 317 [.agg t.cells,.sc (.string l)] S=some (.tup [.sc (.string ((wY t l).getD ⟨#[]⟩)),.sc (.bool (wY t l).isSome)],S):=by
 rw [zh zHb rfl (by simp) rfl];unfold wY;by_cases h1:t.kind=1
 ·rw [if_pos h1];by_cases h2:t.name.size < 1
  ·have hc:jI t.name l=none:=by
    unfold jI;rw [if_neg];intro hc;have:=congrArg ByteArray.size hc;rw [ByteArray.size_extract]at this;omega
   have h2':(t.name.size:Int) < 1:=by omega
   simp [f317,zf3,eq_true h1,h2,h2',hc]
  ·have e1:pev (.sliceS false true) [.sc (.string t.name),.i 1]=some (.sc (.string (t.name.extract 0 1))):=zlu (by omega) (by omega);have e2:pev (.sliceS true false) [.sc (.string t.name),.i 1]=some (.sc (.string (t.name.extract 1 t.name.size))):=zjM (by omega) (by omega);have h2':¬(t.name.size:Int) < 1:=by omega
   unfold jI;rw [hl];by_cases h3:t.name.extract 0 1=l
   ·simp [f317,zf3,eq_true h1,h2,h2',e1,e2,h3]
   ·simp [f317,zf3,eq_true h1,h2,h2',e1,e2,h3]
 ·simp [f317,zf3,h1]
end
section
variable {S:AS}
@[simp] theorem zMv {a:T}:call 360 [.agg a.cells] S=some (.agg (zZ a).cells,S):=by
 rw [zh zv9 rfl (by simp) rfl];simp [zhM,zst,zZ,T.cells,yr]
@[simp] theorem zL5 {a b:T}:call 362 [.agg a.cells,.agg b.cells] S=some (.agg (jm a b).cells,S):=by
 rw [zh zFa rfl (by simp) rfl];simp [zgh,zrH,jm,T.cells,yr]
@[simp] theorem zKg {a:T}:call 265 [.agg a.cells] S=some (.agg (z8 a).cells,S):=by
 rw [zh zvt rfl (by simp) rfl];simp [zjH,zop,z8,T.cells,yr]
@[simp] theorem zMm {a:T}:call 173 [.agg a.cells] S=some (.agg (zZ a).cells,S):=by
 rw [zh a173 rfl (by simp) rfl];simp [zgq,zng,zZ,T.cells,yr]
@[simp] theorem zMI {a b:T}:call 172 [.agg a.cells,.agg b.cells] S=some (.agg (ww a b).cells,S):=by
 rw [zh zAQ rfl (by simp) rfl];simp [f172,ztG,ww,T.cells,yr]
@[simp] theorem zM9 {a:T} {n:ByteArray}:call 312 [.agg a.cells,.sc (.string n)] S=some (.agg (jr a n).cells,S):=by
 rw [zh zxg rfl (by simp) rfl];simp [zg9,zsd,jr,T.cells,yr]
@[simp] theorem zJj {a:T} {n:ByteArray}:call 259 [.agg a.cells,.sc (.string n)] S=some (.agg (jr a n).cells,S):=by
 rw [zh zGj rfl (by simp) rfl];simp [ziR,zrf,jr,T.cells,yr]
end
structure T.tidy (t:T):Prop where
 right:t.right=true
 bulk:t.bulk <=1099511627776
theorem T.tidy.kid {t u:T} (h:t.tidy) (hu:u∈t.kids):u.tidy:=by
 obtain ⟨h1,h2,h3⟩:=T.right_iff.1 h.right;rw [t.rshp_def,Bool.and_eq_true]at h1;rw [t.ord_def,Bool.and_eq_true,zcR,List.all_eq_true]at h3;exact ⟨T.right_iff.2 ⟨zbR.1 h1.2 u hu,by have:=T.dp_kid hu;omega,h3.2 u hu⟩,by have:=T.bulk_kid hu;have:=h.bulk;omega⟩
theorem T.tidy.txt {t:T} (h:t.tidy):t.txt=t.text:=by
 obtain ⟨h1,h2,h3⟩:=T.right_iff.1 h.right;unfold T.txt;rw [if_pos];rw [h1];simpa using h2
theorem T.tidy.fits {t:T} (h:t.tidy):t.fits:=T.fits_bulk h.bulk
theorem zkO {S:AS} {id:Nat} {o:Option jb} (h:S.heap id=o):S.set id o=S:=by
 unfold AS.set;obtain ⟨hp,n,ro⟩:=S;simp only [AS.mk.injEq,and_true];funext j;split
 ·rename_i e;rw [e];exact h.symm
 ·rfl
theorem T.tidy.share {t a b:T} (h:t.tidy) (h9:t.kind=9) (hab:t.kids=[a,b]):sLt b.text a.text=false:=by
 obtain ⟨h1,h2,h3⟩:=T.right_iff.1 h.right;rw [t.ord_def,Bool.and_eq_true,hab]at h3;have:=h3.1;unfold qD at this;rw [if_pos h9]at this;simpa using this
section
set_option maxHeartbeats 2000000 in
theorem zua:∀(n:Nat) (t:T) (S:AS),sizeOf t < n -> t.tidy -> call 254 [.agg t.cells] S=some (.agg t.cells,S)
 |0,_,_,h,_=>by omega
 |n+1,t,S,hn,ht=>by
  have ih:∀u∈t.kids,∀S,call 254 [.agg u.cells] S=some (.agg u.cells,S):=fun u hu S=>zua n u S (by have:=T.kid_lt hu;omega) (ht.kid hu);have hb:=ht.bulk;have hlen:=t.bulk_len;rw [zh zGM rfl (by simp) rfl];obtain ⟨S1,hS1⟩:∃S1,S1=AS.new ⟨S.heap,S.n,S.n⟩ (.rows 3 (t.kids.map T.cells)):=⟨_,rfl⟩;have e256:call 256 [zf t.kids] ⟨S.heap,S.n,S.n⟩=some (.arr S.n 3 0 t.kids.length none,S1):=by
   rw [zkK (by simp),hS1];simp [qG,zd5];omega
  have hh:S1.heap S.n=some (.rows 3 (t.kids.map T.cells)):=by rw [hS1];exact jw
  have hro1:S1.ro=S.n:=by rw [hS1];rfl
  have hcell:[AV.sc (.int .i64 t.kind),.sc (.string t.name),.arr S.n 3 0 t.kids.length none].all AV.isCell=true:=rfl;have hset:List.take 2 t.cells++AV.arr S.n 3 0 t.kids.length none::List.drop 3 t.cells=[AV.sc (.int .i64 t.kind),.sc (.string t.name),.arr S.n 3 0 t.kids.length none]:=by rw [zu];rfl
  have hfin:=@zmj S S1 t.kind t.name S.n 0 t.kids.length none t.kids (by
   have:=@wD S1 S.n S.n 3 _ hh (Nat.le_refl _);simpa using this)
  have htt:T.mk t.kind t.name t.kids=t:=by cases t;rfl
  rw [htt]at hfin;simp only [zhH];simp [-zg,zpE,e256,hset];refine ko (α:=Nat) (R:=fun _ r=>zW S r=some (.agg t.cells,S)) (fun i e rg S'=>i <=t.kids.length /\ S'=S1 /\ NQ [3,4,13,14,15,16,17,18,19,20,21,22,23] [4] e /\ e 1=.reg 1 0 /\ rg 1=some [.sc (.int .i64 t.kind),.sc (.string t.name),.arr S.n 3 0 t.kids.length none] /\ e 2=.reg 2 0 /\ (∃z,rg 2=some z /\ z.length=3) /\
   e 10=.arr S.n 3 0 t.kids.length none /\ e 11=.sc (.int .i64 (t.kids.length:Nat)) /\ e 12=.sc (.int .i64 (i:Nat))) (fun i=>t.kids.length - i) (fun _ _ _ _ h=>h.2.2.1) ?_ 0 _ _ _ ?_
  rotate_left
  ·refine ⟨by omega,rfl,?_,by simp,by simp,by simp,⟨[.i 0,.s ⟨#[]⟩,.lst 0 true []],by simp,rfl⟩,by simp,by simp,by simp⟩
   repeat (first|exact vx rfl|refine yh ?_ (by simp))
  intro kk hkk i e rg S' ⟨hi,hS',hq,g1,q1,g2,⟨z,q2,hz⟩,g10,g11,g12⟩ ihl;subst hS';by_cases hc:i < t.kids.length
  ·obtain ⟨u,hu⟩:=jK hc;have w2:IntKind.i64.wrap ((i:Int)+1)=((i+1:Nat):Int):=w64 (by omega);have e254:=ih u (List.mem_of_getElem? hu);have hci:(i:Int) < (t.kids.length:Int):=by omega
   have hia:pev (.iaddr 3) [.arr S.n 3 0 t.kids.length none,.sc (.int .i64 (i:Int))]=some (.ptr S.n i 0):=by simp [pev];omega
   have hrow:(t.kids.map T.cells)[i]?=some u.cells:=by simp [hu]
   have hld:∀d rg,za (.ld none 3 true) d rg S' [.ptr S.n i 0]=some (.agg u.cells,none,S'):=fun d rg=>zf2 hh hrow (by simp);have hst:∀d rg,za (.st none 3) d rg S' [.ptr S.n i 0,.agg u.cells]=some (.junk,none,S'):=fun d rg=>by
    have hsame:(t.kids.map T.cells).set i (setCells u.cells 0 u.cells)=t.kids.map T.cells:=by
     have e:setCells u.cells 0 u.cells=u.cells:=by simp [setCells]
     rw [e];apply List.ext_getElem?;intro j;rw [List.getElem?_set];split
     ·rename_i h;subst h;rw [hrow];simp;omega
     ·rfl
    have hss:=zkO hh;have hcs:(AV.agg u.cells).cells=u.cells:=rfl;simp only [za,hro1,Nat.le_refl,hcs,T.cell_cells,T.len_cells,and_self,if_true,hh,hrow,Option.bind_some,Nat.zero_add,hsame,hss]
   simp [-zg,zko,g1,q1,g10,g11,g12,hci,hia,hld,hst,e254,w2];refine ihl (i+1) _ _ _ (by omega) (fun _ h=>h) ?_;refine ⟨by omega,rfl,?_,by simp [g1],by simp [q1],by simp [g2],⟨z,by simp [q2],hz⟩,by simp [g10],by simp [g11],by simp⟩
   repeat (first|exact zaH hq|refine yh ?_ (by simp))
  ·have hi':i=t.kids.length:=by omega
   subst hi';simp [-zg,zko,g11,g12];rw [hkk];by_cases h9:t.kind=9
   ·by_cases h2:t.kids.length=2
    ·obtain ⟨a,b,hab⟩:∃a b,t.kids=[a,b]:=by
      match hl:t.kids,h2 with
      |[a,b],_=>exact ⟨a,b,rfl⟩
     have ha:=ht.kid (u:=a) (by rw [hab];simp);have hbb:=ht.kid (u:=b) (by rw [hab];simp);have e229:=fun S=>@zm3 S b a hbb.bulk ha.bulk;rw [hbb.txt,ha.txt,ht.share h9 hab]at e229;have hia0:pev (.iaddr 3) [.arr S.n 3 0 t.kids.length none,.i 0]=some (.ptr S.n 0 0):=by rw [h2];rfl
     have hia1:pev (.iaddr 3) [.arr S.n 3 0 t.kids.length none,.i 1]=some (.ptr S.n 1 0):=by rw [h2];rfl
     have hld0:∀d rg,za (.ld none 3 true) d rg S' [.ptr S.n 0 0]=some (.agg a.cells,none,S'):=fun d rg=>zf2 hh (by rw [hab];rfl) (by simp);have hld1:∀d rg,za (.ld none 3 true) d rg S' [.ptr S.n 1 0]=some (.agg b.cells,none,S'):=fun d rg=>zf2 hh (by rw [hab];rfl) (by simp);have h2':(t.kids.length:Int)=2:=by omega
     simp [-zg,g1,q1,g2,q2,hz,eq_true h9,h2',hia0,hia1,hld0,hld1,e229];simpa [-zg] using hfin
    ·have h2':¬(t.kids.length:Int)=2:=by omega
     simp [-zg,g1,q1,g2,q2,hz,eq_true h9,h2'];simpa [-zg] using hfin
   ·simp [-zg,g1,q1,g2,q2,hz,h9];simpa [-zg] using hfin
theorem zkM {t:T} {S:AS} (h:t.tidy):call 254 [.agg t.cells] S=some (.agg t.cells,S):=zua _ t S (Nat.lt_succ_self _) h
end
theorem zrq (x:Int):inI (IntKind.i64.wrap x):=by
 rw [Go.IntWalk.i64_left];exact i64_in (RowKit.wrap64_wf x)
theorem zrU {m:Nat} (h:m < 10):pev .bytesStr [AV.lst 1 true [[.sc (.int .u8 (IntKind.u8.wrap (IntKind.i64.wrap (48 - (-(m:Int))))))]]]=some (.sc (.string (jB m))):=by
 rw [show (48:Int) - -(m:Int)=48+(m:Int) by omega,zgP h];exact zju
theorem zmA {m:Nat} (h:0 < m):zq (-(m:Int))=⟨#[45]⟩++zV m:=by
 unfold zq Lib.itoa zV;rw [if_pos (by omega),show (-(m:Int)).natAbs=m by omega];exact (zi4 (x:=[45]) (y:=Lib.decDigits m)).symm
section
variable {S:AS}
theorem zAY:∀{m:Nat} {S:AS},0 < m -> m <=9223372036854775808 -> call 213 [.sc (.int .i64 (-(m:Int)))] S=some (.sc (.string (zq (-(m:Int)))),S):=by
 intro m
 induction m using Nat.strongRecOn with
 |_ m ih=>
  intro S h0 hm;rw [zh a213 rfl (by simp) rfl];have hneg:(-(m:Int)) < 0:=by omega
  have hd:m % 10 < 10:=Nat.mod_lt _ (by omega);by_cases h:m < 10
  ·have h1:(-10:Int) < -(m:Int):=by omega
   have hb:=zrU h;have hsz:(jB m).size=1:=rfl;have p:pev (.bin .add) [AV.s ⟨#[45]⟩,.sc (.string (jB m))]=some (.sc (.string (zq (-(m:Int))))):=by
    rw [zmA h0,zce h];exact yS (by have:(⟨#[45]⟩:ByteArray).size=1:=rfl;omega)
   simp [-Int.sub_neg,zca,zfI,hneg,h1,zw,hb,p,h0]
  ·have h1:¬(-10:Int) < -(m:Int):=by omega
   have hb:=zrU hd;have e213:=fun S=>ih (m / 10) (by omega) (S:=S) (by omega) (by omega);have hq:pev (.bin .quo) [.sc (.int .i64 (-(m:Int))),.i 10]=some (.sc (.int .i64 (-((m / 10:Nat):Int)))):=by
    have:IntKind.i64.wrap ((-(m:Int)).tdiv 10)=(-((m / 10:Nat):Int)):=by
     rw [Int.neg_tdiv,show (m:Int).tdiv 10=((m / 10:Nat):Int) by rw [Int.tdiv_eq_ediv_of_nonneg (by omega)];omega];exact w64 (by omega)
    simp only [pev,vV,this];rfl
   have hr:pev (.bin .rem) [.sc (.int .i64 (-(m:Int))),.i 10]=some (.sc (.int .i64 (-((m % 10:Nat):Int)))):=by
    have:(-(m:Int)).tmod 10=(-((m % 10:Nat):Int)):=by
     rw [Int.neg_tmod,show (m:Int).tmod 10=((m % 10:Nat):Int) by rw [Int.tmod_eq_emod_of_nonneg (by omega)];omega]
    simp only [pev,vV,this];rfl
   have hsz:(jB (m % 10)).size=1:=rfl;have hp:pev (.bin .add) [.sc (.string (zq (-((m / 10:Nat):Int)))),.sc (.string (jB (m % 10)))]=some (.sc (.string (zq (-(m:Int))))):=by
    rw [zmA h0,zen (by omega),zmA (by omega),<- zda];exact yS (by
     have:=wF (n:=m / 10) (by omega);have:(⟨#[45]⟩:ByteArray).size=1:=rfl;rw [ByteArray.size_append];omega)
   have hneg':0 < m:=h0;generalize (m / 10:Nat)=q at *;generalize (m % 10:Nat)=r at *;simp [-Int.sub_neg,zca,zfI,hneg,h1,zw,hq,hr,e213,hb,hp,h0]
theorem zyf:∀{n:Nat} {S:AS},n <=9223372036854775807 -> call 213 [.sc (.int .i64 (n:Int))] S=some (.sc (.string (zV n)),S):=by
 intro n
 induction n using Nat.strongRecOn with
 |_ n ih=>
  intro S hn;rw [zh a213 rfl (by simp) rfl];have hd:n % 10 < 10:=Nat.mod_lt _ (by omega);have hneg:¬(n:Int) < 0:=by omega
  have hbyte:∀m:Nat,m < 10 -> pev .bytesStr [AV.lst 1 true [[.sc (.int .u8 (IntKind.u8.wrap (IntKind.i64.wrap (48+(m:Int)))))]]]=some (.sc (.string (jB m))):=fun m hm=>by
   rw [zgP hm];exact zju
  by_cases h:n < 10
  ·have h':(n:Int) < 10:=by omega
   simp [zca,zfI,hneg,h',zw,hbyte n h,zce h]
  ·have h':¬(n:Int) < 10:=by omega
   have e213:=fun S=>ih (n / 10) (by omega) (S:=S) (by omega);have hb:=hbyte (n % 10) hd;have hsz:(jB (n % 10)).size=1:=rfl;have hs:=yS (x:=zV (n / 10)) (y:=jB (n % 10)) (by have:=wF (n:=n / 10) (by omega);omega);rw [<- zen (by omega)]at hs;have hq:=@zgU n hn;have hr:=@zhc n;generalize (n / 10:Nat)=q at *;generalize (n % 10:Nat)=r at *;simp [zca,zfI,hneg,h',zw,hq,hr,e213,hb,hs]
theorem zpw {n:Int} (h:inI n):call 213 [.sc (.int .i64 n)] S=some (.sc (.string (zq n)),S):=by
 unfold inI at h;by_cases hn:n < 0
 ·obtain ⟨m,rfl⟩:∃m:Nat,n= -(m:Int):=⟨n.natAbs,by omega⟩;exact zAY (by omega) (by omega)
 ·obtain ⟨m,rfl⟩:∃m:Nat,n=m:=⟨n.toNat,by omega⟩;rw [zkw];exact zyf (by omega)
end
def zdw (n:Int) (c:UInt8):Int:=IntKind.i64.wrap (IntKind.i64.wrap (n * 10) - IntKind.i64.wrap (IntKind.u8.wrap ((c.toNat:Int) - 48)))
def qX:Int -> List UInt8 -> Int
 |n,[]=>n
 |n,c::l=>qX (zdw n c) l
theorem u8w {n:Int} (h:0 <=n /\ n <=255):IntKind.u8.wrap n=n:=by
 simp [IntKind.wrap,IntKind.bits,IntKind.signed];omega
theorem zDT {a d b:Nat} {c:UInt8} (hc:c.toNat=48+d) (hd:d <=9) (hb:b <=9223372036854775808) (h:a * 10+d <=b):zdw (-(a:Int)) c= -((a * 10+d:Nat):Int):=by
 have e1:IntKind.u8.wrap ((c.toNat:Int) - 48)=(d:Int):=by rw [u8w (by omega)];omega
 have e2:IntKind.i64.wrap (d:Int)=(d:Int):=w64 (by omega);have e3:IntKind.i64.wrap (-(a:Int) * 10)= -(a:Int) * 10:=w64 (by omega);have e4:IntKind.i64.wrap (-(a:Int) * 10 - (d:Int))= -(a:Int) * 10 - (d:Int):=w64 (by omega);unfold zdw;rw [e1,e2,e3,e4];omega
theorem zEE {n:Int} {c:UInt8} {l:List UInt8}:qX n (c::l)=qX (zdw n c) l:=rfl
theorem zGK {a:Nat} {c:UInt8} {l:List UInt8}:qJ a (c::l)=qJ (a * 10+(c.toNat - 48)) l:=by conv=>lhs;unfold qJ
theorem zA9 {b:Nat} (hb:b <=9223372036854775808) (l:List UInt8):∀(a:Nat),(∀c∈l,qr c) -> qJ a l <=b -> qX (-(a:Int)) l= -((qJ a l:Nat):Int):=by
 induction l with
 |nil=>intro a _ _;rfl
 |cons c l ih=>
  intro a hd h;rw [zGK]at h ⊢;have hge:=@zlE l (a * 10+(c.toNat - 48));have hc:=hd c (by simp);unfold qr at hc;rw [zEE,zDT (d:=c.toNat - 48) (by omega) (by omega) hb (by omega)];exact ih _ (fun x hx=>hd x (by simp [hx])) h
theorem zp1 {l:List UInt8} {a:Nat} (hd:∀c∈l,qr c) (h:qJ a l <=9223372036854775808):qX (-(a:Int)) l= -((qJ a l:Nat):Int):=zA9 (b:=9223372036854775808) (by omega) l a hd h
theorem zpI:∀{l:List UInt8} {n:Int},inI n -> inI (qX n l)
 |[],_,h=>h
 |_::l,_,_=>zpI (l:=l) (zrq _)
def zcr (s:ByteArray):Bool:=decide (1 < s.size) && decide (s.data.toList[0]?=some 45)
def qh (s:ByteArray):Int:=if zcr s then qX 0 (s.data.toList.drop 1) else IntKind.i64.wrap (-(qX 0 s.data.toList))
theorem zpT:inI 0:=by unfold inI;omega
theorem zqi {s:ByteArray}:inI (qh s):=by
 unfold qh;split
 ·exact zpI zpT
 ·exact zrq _
theorem zBj {m:Int} (h:inI m):qh (zq m)=m:=by
 unfold qh zcr;have hs:(zq m).size=(zq m).data.toList.length:=by simp
 rw [hs,zaB];unfold inI at h;unfold Lib.itoa;by_cases hneg:m < 0
 ·rw [if_pos hneg];obtain ⟨i1,i2,i3⟩:=wv m.natAbs;have h0:=@zp1 (Lib.decDigits m.natAbs) 0 i1 (by rw [i2];omega);have hl:0 < (Lib.decDigits m.natAbs).length:=List.length_pos_iff.2 i3;rw [i2]at h0;have h0:qX 0 (Lib.decDigits m.natAbs)= -(m.natAbs:Int):=h0;simp [hl,h0];omega
 ·rw [if_neg hneg];obtain ⟨i1,i2,i3⟩:=wv m.toNat;have h0:=@zp1 (Lib.decDigits m.toNat) 0 i1 (by rw [i2];omega);rw [i2]at h0;have h0:qX 0 (Lib.decDigits m.toNat)= -(m.toNat:Int):=h0;have e3:¬(Lib.decDigits m.toNat)[0]?=some 45:=by
   intro h;have:=i1 45 (List.mem_of_getElem? h);exact absurd this (by decide)
  rw [h0];simp only [e3,decide_false,Bool.and_false,Bool.false_eq_true,if_false];rw [w64 (by omega)];omega
section
variable {S:AS}
theorem zGC {s:ByteArray} (hsz:s.size <=4611686018427387904):call 318 [.sc (.string s)] S=some (.tup [.sc (.int .i64 (qh s)),.sc (.bool (decide (zq (qh s)=s)))],S):=by
 rw [zh zu4 rfl (by simp) rfl];have hsl:s.data.toList.length=s.size:=by simp
 have hcc:∀(f:Nat) (ks:List Kn) (e:Nat -> AV) (rg:Nat -> Option (List AV)) (S0:AS) (r:Option (AV×AS)),f <=s.size -> e 0=.sc (.string s) -> e 6=.i 0 -> e 7=.sc (.int .i64 (f:Nat)) ->
  (∀e' rg S',e' 0=e 0 -> e' 4=e 4 -> e' 6=.sc (.int .i64 (qX 0 (s.data.toList.drop f))) -> zW S (fin [.tmp 2,.tmp 3] (unw AA (some (.exit 0,st 41 e' rg S')) ks))=r) ->
  zW S (fin [.tmp 2,.tmp 3] (zA AA (.loop [18,19,20,21,22,23,24,25,26,27,28,29,30,31] [] zhD) (st 41 e rg S0) ks))=r:=by
  intro f ks e rg S0 r hf h0 h6 h7 hex;refine jY (α:=Nat) (R:=fun _ x=>zW S x=r) (fun i e' rg S'=>i <=s.size /\ e' 0=e 0 /\ e' 4=e 4 /\ (∃n,e' 6=.sc (.int .i64 n) /\ qX n (s.data.toList.drop i)=qX 0 (s.data.toList.drop f)) /\ e' 7=.sc (.int .i64 (i:Nat))) (fun i=>s.size - i) ?_ f _ _ _ ⟨hf,rfl,rfl,⟨0,h6,rfl⟩,h7⟩;intro kk hkk i e' rg S' ⟨hi,g0,g4,⟨n,g6,hn⟩,g7⟩ ih;rw [h0]at g0;by_cases hc:i < s.size
  ·have hc':(i:Int) < s.size:=by omega
   obtain ⟨b,hb⟩:∃b,s.data.toList[i]?=some b:=⟨s.data.toList[i],by simp [hsl,hc]⟩;have hdrop:s.data.toList.drop i=b::s.data.toList.drop (i+1):=by
    obtain ⟨hlt',rfl⟩:=List.getElem?_eq_some_iff.1 hb;exact List.drop_eq_getElem_cons hlt'
   have hix:=zeR hb;have w2:IntKind.i64.wrap ((i:Int)+1)=((i+1:Nat):Int):=w64 (by omega);simp [-zg,zhD,g0,g6,g7,hc',hc,hix,w2];refine ih (i+1) _ _ _ (by omega) (fun _ h=>h) ?_;refine ⟨by omega,by simp [g0,h0],by simp [g4],⟨zdw n b,by simp [zdw],?_⟩,by simp⟩;rw [<- hn,hdrop];rfl
  ·have hi':i=s.size:=by omega
   subst hi';rw [List.drop_eq_nil_of_le (by omega)]at hn;have hn:n=_:=hn;simp [-zg,zhD,g0,g6,g7];rw [hkk];exact hex _ _ _ (by simp [g0,h0]) (by simp [g4]) (by simp [g6,hn])
 have e213:=fun S=>@zpw S (qh s) zqi;have hm:zcr s=true \/ zcr s=false:=by cases zcr s<;>simp
 rcases hm with hm|hm
 ·have hm':=hm;unfold zcr at hm';rw [Bool.and_eq_true,decide_eq_true_eq,decide_eq_true_eq]at hm';have hgt:(1:Int) < s.size:=by omega
  have hix:pev .indexS [.sc (.string s),.i 0]=some (.sc (.int .u8 45)):=zeR (i:=0) hm'.2;have hnA:qh s=qX 0 (s.data.toList.drop 1):=by unfold qh;rw [hm];rfl
  simp only [f318];simp [-zg,zhQ,hgt,hm'.1,hix];refine hcc 1 _ _ _ _ _ (by omega) (by simp) (by simp) (by simp) ?_;intro e' rg S' g0 g4 g6;rw [<- hnA]at g6;simp at g0 g4;simp [g0,g4,g6,e213]
 ·have hnA:qh s=IntKind.i64.wrap (-(qX 0 s.data.toList)):=by unfold qh;rw [hm];rfl
  have fin:∀(e':Nat -> AV) (rg:Nat -> Option (List AV)) (S':AS),e' 0=.sc (.string s) -> e' 4=.b false -> e' 6=.sc (.int .i64 (qX 0 (s.data.toList.drop 0))) -> zW S (fin [.tmp 2,.tmp 3] (zA AA (.seq (.seq (.ops [
   ⟨some 32,.pur .mov,[.t 4],none⟩,
   ⟨some 33,.pur (.un .not),[.t 32],none⟩]) (.cond (.t 33) (.ops [
    ⟨some 34,.pur .mov,[.t 6],none⟩,
    ⟨some 35,.pur (.un .neg),[.t 34],none⟩,
    ⟨some 6,.pur .mov,[.t 35],none⟩]) (.skip))) (.seq (.ops [
   ⟨some 36,.pur .mov,[.t 6],none⟩,
   ⟨some 37,.pur .mov,[.t 6],none⟩,
   ⟨some 38,.call 213,[.t 37],none⟩,
   ⟨some 39,.pur .mov,[.t 0],none⟩,
   ⟨some 40,.pur (.bin .eql),[.t 38,.t 39],none⟩,
   ⟨some 2,.pur .mov,[.t 36],none⟩,
   ⟨some 3,.pur .mov,[.t 40],none⟩]) .ret)) (st 41 e' rg S') []))=some (.tup [.sc (.int .i64 (qh s)),.sc (.bool (decide (zq (qh s)=s)))],S):=by
   intro e' rg S' g0 g4 g6;rw [List.drop_zero]at g6;simp [g0,g4,g6,<- hnA,e213]
  unfold zcr at hm;by_cases hgt:1 < s.size
  ·have hgt':(1:Int) < s.size:=by omega
   have hne:¬s.data.toList[0]?=some 45:=by simpa [hgt] using hm
   obtain ⟨b,hb⟩:∃b,s.data.toList[0]?=some b:=⟨s.data.toList[0]'(by omega),by simp⟩;have hix:pev .indexS [.sc (.string s),.i 0]=some (.sc (.int .u8 (b.toNat:Int))):=zeR (i:=0) hb;have h45:¬((b.toNat:Int)=45):=by
    intro h;have:b=45:=by rw [<- UInt8.toNat_inj];show b.toNat=45;omega
    exact hne (by rw [hb,this])
   simp only [f318];simp [-zg,zhQ,hgt,hgt',hix,h45];refine hcc 0 _ _ _ _ _ (by omega) (by simp) (by simp) (by simp) ?_;intro e' rg S' g0 g4 g6;simp at g0 g4;simpa [g0,g4] using fin e' rg S' g0 g4 g6
  ·have hgt':¬(1:Int) < s.size:=by omega
   simp only [f318];simp [-zg,zhQ,hgt,hgt'];refine hcc 0 _ _ _ _ _ (by omega) (by simp) (by simp) (by simp) ?_;intro e' rg S' g0 g4 g6;simp at g0 g4;simpa [g0,g4] using fin e' rg S' g0 g4 g6
end
def kB:ByteArray:=⟨#[97,115,45,114,101,113]⟩
def wM:ByteArray:=⟨#[101,114,114,111,114]⟩
def zab:ByteArray:=⟨#[98,111,100,121]⟩
def vT (a b c:T):T:=zj kB [a,b,c]
def qp (n:Int):T:=zj wM [qb n]
def zi:T:=zj wE []
def km (s r:ByteArray):T:=zj zab [yF s,yF r]
theorem qy {tag:ByteArray} {n:Nat} {t:T} {l:List T} (h:yw tag n t=some l):l.length=n /\ ∀k∈l,k∈t.kids:=by
 unfold yw at h;split at h
 ·rename_i hc;cases h;refine ⟨by rw [List.length_tail];omega,fun k hk=>List.mem_of_mem_tail hk⟩
 ·cases h
section
variable {S:AS}
theorem zoo {a b c:T} {f:Bool}:je S (.lst 3 f [a.cells,b.cells,c.cells]) [a,b,c]:=zcp (l:=[a,b,c])
theorem zej {a b:T} {f:Bool}:je S (.lst 3 f [a.cells,b.cells]) [a,b]:=zcp (l:=[a,b])
theorem zgB {a:T} {f:Bool}:je S (.lst 3 f [a.cells]) [a]:=zcp (l:=[a])
theorem zBW {s:ByteArray} {z:Nat} {f:Bool}:call 62 [.sc (.string s),.lst z f []] S=some (.agg (zj s []).cells,S):=p62 zhm (by simp)
theorem zF9 {s:ByteArray} {f:Bool} {a:T}:call 62 [.sc (.string s),.lst 3 f [a.cells]] S=some (.agg (zj s [a]).cells,S):=p62 zgB (by simp)
theorem zwy {s:ByteArray} {f:Bool} {a b:T}:call 62 [.sc (.string s),.lst 3 f [a.cells,b.cells]] S=some (.agg (zj s [a,b]).cells,S):=p62 zej (by simp)
theorem zwN {s:ByteArray} {f:Bool} {a b c:T}:call 62 [.sc (.string s),.lst 3 f [a.cells,b.cells,c.cells]] S=some (.agg (zj s [a,b,c]).cells,S):=p62 zoo (by simp)
theorem zAj {s:ByteArray} {z:Nat} {f:Bool}:call 63 [.sc (.string s),.lst z f []] S=some (.agg (zj s []).cells,S):=p63 zhm (by simp)
theorem zxe {s:ByteArray} {f:Bool} {a:T}:call 63 [.sc (.string s),.lst 3 f [a.cells]] S=some (.agg (zj s [a]).cells,S):=p63 zgB (by simp)
theorem zBi {s:ByteArray} {f:Bool} {a b:T}:call 63 [.sc (.string s),.lst 3 f [a.cells,b.cells]] S=some (.agg (zj s [a,b]).cells,S):=p63 zej (by simp)
theorem zzM {s:ByteArray} {f:Bool} {a b c:T}:call 63 [.sc (.string s),.lst 3 f [a.cells,b.cells,c.cells]] S=some (.agg (zj s [a,b,c]).cells,S):=p63 zoo (by simp)
attribute [simp] zBW zF9 zwy zwN zAj zxe zBi zzM
@[simp] theorem s70 {a b c:T}:call 70 [.agg a.cells,.agg b.cells,.agg c.cells] S=some (.agg (vT a b c).cells,S):=by
 rw [zh a70 rfl (by simp) rfl];simp [f70,zrm,vT,kB]
theorem s73 {n:Int} (h:inI n) (h':n≠ -9223372036854775808):call 73 [.sc (.int .i64 n)] S=some (.agg (qp n).cells,S):=by
 unfold inI at h;rw [zh a73 rfl (by simp) rfl];simp [f73,ztD,@s67 _ n (by omega) h.2,qp,wM]
@[simp] theorem s74:call 74 [] S=some (.agg zi.cells,S):=by
 rw [zh a74 rfl rfl rfl];simp [f74,zok,zi,wE]
@[simp] theorem s75:call 75 [] S=some (.agg zi.cells,S):=by
 rw [zh a75 rfl rfl rfl];simp [f75,ztH,zi,wE]
theorem s76 {s r:ByteArray} (hs:s.size <=4611686018427387904) (hr:r.size <=4611686018427387904):call 76 [.sc (.string s),.sc (.string r)] S=some (.agg (km s r).cells,S):=by
 rw [zh a76 rfl (by simp) rfl];simp [f76,zqt,s64 hs,s64 hr,km,zab]
def zed:List T -> Option (ByteArray×ByteArray)
 |[a,b]=>(j0 a).bind fun x=>(j0 b).bind fun y=>if x=⟨#[]⟩ \/ y=⟨#[]⟩ then none else some (x,y)
 |_=>none
theorem zw9 {a b:T}:zed [a,b]=(j0 a).bind fun x=>(j0 b).bind fun y=>if x=⟨#[]⟩ \/ y=⟨#[]⟩ then none else some (x,y):=rfl
def qU (t:T):Option (ByteArray×ByteArray):=(yw zab 2 t).bind zed
def j7 (o:Option (ByteArray×ByteArray)):AV:=.tup [.sc (.string ((o.map Prod.fst).getD ⟨#[]⟩)),.sc (.string ((o.map Prod.snd).getD ⟨#[]⟩)),.sc (.bool o.isSome)]
theorem zCM {a b:T}:pev (.iaddr 3) [zf [a,b],.i 0]=some (.iptr a.cells):=zI (i:=0) rfl
theorem zxn {a b:T}:pev (.iaddr 3) [zf [a,b],.i 1]=some (.iptr b.cells):=zI (i:=1) rfl
theorem zIk {a:T}:pev (.iaddr 3) [zf [a],.i 0]=some (.iptr a.cells):=zI (i:=0) rfl
theorem zvd {a b c:T}:pev (.iaddr 3) [zf [a,b,c],.i 0]=some (.iptr a.cells):=zI (i:=0) rfl
theorem zzg {a b c:T}:pev (.iaddr 3) [zf [a,b,c],.i 1]=some (.iptr b.cells):=zI (i:=1) rfl
theorem zv0 {a b c:T}:pev (.iaddr 3) [zf [a,b,c],.i 2]=some (.iptr c.cells):=zI (i:=2) rfl
attribute [simp] zCM zxn zIk zvd zzg zv0
theorem s93 {t:T}:call 93 [.agg t.cells] S=some (j7 (qU t),S):=by
 rw [zh a93 rfl (by simp) rfl];have e:=fun S=>@s79 S zab 2 t (by omega);simp only [zab]at e;unfold qU;cases hu:yw zab 2 t with
 |none=>
  simp only [zab]at hu;simp [f93,zb9,e,hu,zN,j7]
 |some l=>
  obtain ⟨hl,_⟩:=qy (n:=2) hu
  match l,hl with
  |[a,b],_=>
   simp only [zab]at hu;simp only [Option.bind_some,zed];cases ha:j0 a with
   |none=>simp [f93,zb9,e,hu,zN,j7,s86,ha,ju]
   |some x=>
    cases hb:j0 b with
    |none=>simp [f93,zb9,e,hu,zN,j7,s86,ha,hb,ju]
    |some y=>
     by_cases hx:x=⟨#[]⟩
     ·simp [f93,zb9,e,hu,zN,j7,s86,ha,hb,ju,hx]
     ·by_cases hy:y=⟨#[]⟩
      ·simp [f93,zb9,e,hu,zN,j7,s86,ha,hb,ju,hx,hy]
      ·simp [f93,zb9,e,hu,zN,j7,s86,ha,hb,ju,hx,hy]
def tZ:T:=.mk 0 ⟨#[]⟩ []
def zpa:List T -> Option (T×T×T)
 |[a,b,c]=>some (a,b,c)
 |_=>none
def zaD (t:T):Option (T×T×T):=(yw kB 3 t).bind zpa
def qL (o:Option (T×T×T)):AV:=.tup [.agg ((o.map Prod.fst).getD tZ).cells,.agg ((o.map fun x=>x.2.1).getD tZ).cells,.agg ((o.map fun x=>x.2.2).getD tZ).cells,.sc (.bool o.isSome)]
theorem s95 {t:T}:call 95 [.agg t.cells] S=some (qL (zaD t),S):=by
 rw [zh a95 rfl (by simp) rfl];have e:=fun S=>@s79 S kB 3 t (by omega);simp only [kB]at e;unfold zaD;cases hu:yw kB 3 t with
 |none=>
  simp only [kB]at hu;simp [f95,zmK,e,hu,zN,qL,tZ,T.cells,yr];rfl
 |some l=>
  obtain ⟨hl,_⟩:=qy (n:=3) hu
  match l,hl with
  |[a,b,c],_=>
   simp only [kB]at hu;simp only [Option.bind_some,zpa];simp [f95,zmK,e,hu,zN,qL]
noncomputable def zkJ:List T -> Option Int
 |[a]=>(kD a).bind fun n=>if n < 1 then none else some n
 |_=>none
theorem zCE {a:T}:zkJ [a]=(kD a).bind fun n=>if n < 1 then none else some n:=rfl
noncomputable def wX (t:T):Option Int:=(yw wM 1 t).bind zkJ
theorem s96 {t:T} (hf:t.kids.length <=4611686018427387904) (hn:∀k∈t.kids,k.name.size <=281474976710656):call 96 [.agg t.cells] S=some (yQ (wX t),S):=by
 rw [zh a96 rfl (by simp) rfl];have e:=fun S=>@s78 S wM 1 t hf;simp only [wM]at e;unfold wX;cases hu:yw wM 1 t with
 |none=>
  simp only [wM]at hu;simp [f96,zf7,e,hu,zN,yQ]
 |some l=>
  obtain ⟨hl,hm⟩:=qy (n:=1) hu
  match l,hl with
  |[a],_=>
   simp only [wM]at hu;simp only [Option.bind_some,zkJ];have e2:=fun S=>@s87 S a (hn a (hm a (by simp)));cases ha:kD a with
   |none=>simp [f96,zf7,e,hu,zN,yQ,e2,ha]
   |some n=>
    by_cases h1:n < 1
    ·simp [f96,zf7,e,hu,zN,yQ,e2,ha,h1]
    ·simp [f96,zf7,e,hu,zN,yQ,e2,ha,h1]
end
instance (n:Int):Decidable (inI n):=by unfold inI;infer_instance
theorem zma {s:ByteArray}:j0 (yF s)=some s:=by
 unfold j0 yF;rw [if_pos (by rfl)];exact zmW
theorem zdI {s:ByteArray} {l:List T}:yI (zj s l)=s:=by
 rw [zmr (t:=zj s l) rfl rfl rfl];rfl
theorem vH {s:ByteArray} {l:List T} {n:Int} (hs:s≠⟨#[]⟩) (hn:(l.length:Int)=n):yw s n (zj s l)=some l:=by
 unfold yw;rw [if_pos ⟨hs,zdI,by show ((l.length+1:Nat):Int)=n+1;omega⟩];rfl
theorem zsh {s r:ByteArray} {l:List T} {n:Int} (h:r≠s):yw r n (zj s l)=none:=by
 unfold yw;rw [if_neg];rintro ⟨_,h2,_⟩;rw [zdI]at h2;exact h h2.symm
theorem zsu {n:Int} (h:inI n) (h18:(zq n).size <=18):kD (qb n)=some n:=by
 unfold kD qb;rw [zma];show (if (zq n).size <=18 then kQ (zq n) else none)=_;rw [if_pos h18,zzx h]
theorem zke:jD zi=true:=by
 unfold jD zi;rw [vH (by decide) (by rfl)];rfl
section
variable {S:AS}
theorem i3:zq (-3)=⟨#[45,51]⟩:=by
 unfold zq Lib.itoa;rw [if_pos (by decide),show (-3:Int).natAbs=3 from rfl,Lib.decDigits_one (by omega)];rfl
theorem i5:zq 5=⟨#[53]⟩:=by
 unfold zq Lib.itoa;rw [if_neg (by decide),show (5:Int).toNat=5 from rfl,Lib.decDigits_one (by omega)];rfl
end
section
variable {S:AS}
end
structure Ck where
 client:ByteArray
 nonce:ByteArray
 done:List ByteArray
 secret:T
 upto:Int
def Ck.cells (c:Ck):List AV:=[.sc (.string c.client),.sc (.string c.nonce),zB c.done,.sc (.int .i64 c.secret.kind),.sc (.string c.secret.name),zf c.secret.kids,.sc (.int .i64 c.upto)]
def qM:T:=.mk 0 ⟨#[]⟩ []
def j9:Ck:=⟨⟨#[]⟩,⟨#[]⟩,[],qM,0⟩
abbrev zC:List AV:=[.s ⟨#[]⟩,.s ⟨#[]⟩,.lst 0 true [],.i 0,.s ⟨#[]⟩,.lst 0 true [],.i 0]
section
variable (c:Ck)
@[simp] theorem Ck.len_cells:c.cells.length=7:=rfl
@[simp] theorem Ck.cell_cells:c.cells.all AV.isCell=true:=rfl
@[simp] theorem Ck.get0:yM c.cells 0 1 false=some (.sc (.string c.client)):=rfl
@[simp] theorem Ck.get1:yM c.cells 1 1 false=some (.sc (.string c.nonce)):=rfl
@[simp] theorem Ck.get2:yM c.cells 2 1 false=some (zB c.done):=rfl
@[simp] theorem Ck.get3:yM c.cells 3 3 true=some (.agg c.secret.cells):=by rw [zu];rfl
@[simp] theorem Ck.get6:yM c.cells 6 1 false=some (.sc (.int .i64 c.upto)):=rfl
@[simp] theorem Ck.get7:yM c.cells 0 7 true=some (.agg c.cells):=rfl
@[simp] theorem Ck.dt0:c.cells.take 1=[.sc (.string c.client)]:=rfl
@[simp] theorem Ck.dt1:(c.cells.drop 1).take 1=[.sc (.string c.nonce)]:=rfl
@[simp] theorem Ck.dt1':c.cells.tail.take 1=[.sc (.string c.nonce)]:=rfl
@[simp] theorem Ck.dt2:(c.cells.drop 2).take 1=[zB c.done]:=rfl
@[simp] theorem Ck.dt3:(c.cells.drop 3).take 3=c.secret.cells:=by rw [zu];rfl
@[simp] theorem Ck.dt6:(c.cells.drop 6).take 1=[.sc (.int .i64 c.upto)]:=rfl
@[simp] theorem Ck.nrm_cells:yU c.cells=c.cells:=by
 unfold Ck.cells;simp only [yU,AV.nrm];rw [show (zB c.done).nrm=zB c.done from zo1 _,zft]
@[simp] theorem Ck.tk7:c.cells.take 7=c.cells:=rfl
@[simp] theorem Ck.frz_cells (S:AS) (b d:Nat):zE (S.frzTo b (d+1)) c.cells=some c.cells:=by
 unfold Ck.cells zB zf;simp
@[simp] theorem Ck.pure_cells:jR c.cells=true:=by
 unfold Ck.cells;simp [jR,AV.pure]
end
section
variable {S:AS}
def y0 (l:List ByteArray):List T:=l.map fun s=>zJ (⟨#[100]⟩++s)
def jC (c:Ck):List T:=[zJ ⟨#[99,111,111,107,105,101]⟩,zJ (⟨#[99]⟩++c.client),zJ (⟨#[110]⟩++c.nonce),zO (y0 c.done),c.secret,zJ (⟨#[117]⟩++zq c.upto)]
def yC (key:T) (c:Ck):T:=if key.fit && c.secret.fit then jm key (zO (jC c)) else qM
structure Ck.ok (c:Ck):Prop where
 client:c.client.size <=4611686018427387904
 nonce:c.nonce.size <=4611686018427387904
 done:c.done.length * 48 <=140737488355328
 names:∀s∈c.done,s.size <=4611686018427387904
 upto:inI c.upto
 fits:c.secret.fits
 ofit:c.secret.ofit
theorem znc {l:List ByteArray}:(y0 l).length=l.length:=by simp [y0]
theorem zCL {l:List ByteArray} {i:Nat} {s:ByteArray} (h:l[i]?=some s):(y0 (l.take (i+1))).map T.cells=(y0 (l.take i)).map T.cells++[(zJ (⟨#[100]⟩++s)).cells]:=by
 rw [List.take_add_one,h];simp [y0]
end
end Abs
