/- MessageMakes. -/
import Derived.Test.YtdiebjbepfjjfaaGreatDoorG1
set_option maxHeartbeats 16000000
set_option maxRecDepth 100000
set_option linter.unusedVariables false
set_option linter.unusedSimpArgs false
set_option linter.unusedSectionVars false
namespace Abs
open Go
section
variable{S:AS}
end
def knd(k:Int):Bool:=decide (1<=k/\k<=10)
def nmd(k:Int):Bool:=decide (k=1\/k=2\/k=7)
def kdn(k:Int):Int:=if k=3 then -1 else if k=1\/k=2 then 0 else if k=6\/k=7\/k=8 then 1 else 2
def ltr(k:Int):ByteArray:=⟨#[if k=1 then 100 else if k=2 then 97 else if k=3 then 112 else if k=4 then 101 else if k=5 then 109 else if k=6 then 104 else if k=7 then 107 else if k=8 then 117 else if k=9 then 115 else 120]⟩
def T.one(t:T):Bool:=knd t.kind&&(nmd t.kind !=decide (t.name=⟨#[]⟩))&&(decide (kdn t.kind<0)||decide ((t.kids.length:Int)=kdn t.kind))
def T.shp:Nat->T->Bool
 |0,_=>false
 |d+1,t=>t.one&&t.kids.all (T.shp d)
theorem zlV{k:Int}(h:knd k=true):k=1\/k=2\/k=3\/k=4\/k=5\/k=6\/k=7\/k=8\/k=9\/k=10:=by
 simp only[knd,decide_eq_true_eq]at h;omega
theorem zfu{k:Int}(h:knd k=true):pev (.iaddrA 3 11) [.iptr zja,.sc (.int .i64 k)]=some (.iptr (.sc (.string (ltr k))::.sc (.int .i64 (kdn k))::.sc (.bool (nmd k))::zja.drop (k.toNat*3+3))):=by
 rcases zlV h with rfl|rfl|rfl|rfl|rfl|rfl|rfl|rfl|rfl|rfl<;>rfl
theorem wZ:AA.glob 0=some (.iptr zja):=rfl
section
variable{S:AS}
@[simp] theorem zOy{t:T}:call 319 [.agg t.cells] S=some (.sc (.bool (knd t.kind)),S):=by
 rw[zi zw8 rfl (by simp) rfl];by_cases h:1<=t.kind
 ·simp[f319,zle,knd,h]
 ·simp[f319,zle,knd,h]
@[simp] theorem zNy{v:Value}:pev .ibox [.sc v]=some (.iptr [.sc v]):=rfl
theorem zJp{f:AV}{k:Nat}{c:List AV}{l:List T}{g:T->Bool}(A:f=.fn k [] c)(O:l.length<=4611686018427387904)
 (I:∀t∈l,∀S',call k (.agg t.cells::c) S'=some (.sc (.bool (g t)),S')):call 408 [zh l,f] S=some (.sc (.int .i64 (match l.findIdx? g with|some i=>i|none=> -1)),S):=by
 have G:f.isReg=false:=by rw[A];rfl
 rw[z8 zxZ (by simp[G]) rfl];simp only[ziq];simp[zqF,-zg,G];refine y8 (α:=Nat) (R:=fun _ r=>r=some (.sc (.int .i64 (match l.findIdx? g with|some i=>i|none=> -1)),S)) (fun i e rg S'=>i<=l.length/\S'=S/\e 0=zh l/\e 1=f/\e 7=.sc (.int .i64 (l.length:Nat))/\e 8=.sc (.int .i64 (i:Nat))/\(∀t∈l.take i,g t=false)) (fun i=>l.length-i) ?_ 0 _ _ _ ?_;rotate_left
 ·exact⟨by omega,rfl,by simp,by simp,by simp,by simp,fun t d=>by simp at d⟩
 intro Q z i e rg S' ⟨U,hS,B,C,D,F,q⟩ ih;subst hS;by_cases J:i<l.length
 ·have n:(i:Int)<l.length:=by omega
  obtain⟨t,d⟩:∃t,l[i]?=some t:=⟨l[i],by simp[J]⟩;have p:=I t (xaj d);have K:IntKind.i64.wrap ((i:Int)+1)=((i+1:Nat):Int):=w64 (by omega);have L:zgs AA=zgs AA:=rfl;cases E:g t with
  |true=>
   rw[E]at p;simp[zir,B,C,D,F,n,zJ d,A,p,-zg];have v:l.findIdx? g=some i:=by
    rw[List.findIdx?_eq_some_iff_getElem];obtain⟨M,N⟩:=xal.1 d;refine⟨M,by rw[N];exact E,fun j V=>?_⟩;have:=q (l[j]'(by omega)) (by rw[List.mem_take_iff_getElem];exact⟨j,by omega,rfl⟩);simp[this]
   rw[z];simp[v]
  |false=>
   rw[E]at p;simp[zir,B,C,D,F,n,zJ d,A,p,K,-zg];refine ih (i+1) _ _ _ (by omega) (fun _ h=>h) ?_;refine⟨by omega,rfl,by simp[B],by simp[C,A],by simp[D],by simp,fun u w=>?_⟩;rw[xav,d]at w;rcases xaE.1 w with w|w
   ·exact q u w
   ·simp at w;rw[w];exact E
 ·have n:¬(i:Int)<l.length:=by omega
  simp[zir,B,C,D,F,n,-zg];have v:l.findIdx? g=none:=by
   rw[List.findIdx?_eq_none_iff];intro t d;exact q t (by rw[List.take_of_length_le (by omega)];exact d)
  rw[z];simp[v]
theorem zui{f:AV}{k:Nat}{c:List AV}{l:List T}{g:T->Bool}(h:f=.fn k [] c)(n:l.length<=4611686018427387904)
 (p:∀t∈l,∀S',call k (.agg t.cells::c) S'=some (.sc (.bool (g t)),S')):call 320 [zh l,f] S=some (.sc (.bool (l.any g)),S):=by
 have j:f.isReg=false:=by rw[h];rfl
 rw[z8 zw9 (by simp[j]) rfl];have e:=fun S'=>@zJp S' f k c l g h n p;simp[f320,zqb,e,j];cases d:l.findIdx? g with
 |none=>
  rw[List.findIdx?_eq_none_iff]at d;have:l.any g=false:=by rw[List.any_eq_false];intro x q;rw[d x q];simp
  simp[this]
 |some i=>
  rw[List.findIdx?_eq_some_iff_getElem]at d;obtain⟨v,w,_⟩:=d;have:l.any g=true:=List.any_eq_true.2 ⟨_,List.getElem_mem v,w⟩;simp[this]
theorem znU{α:Type}{g:α->Bool}{l:List α}:(!(l.any fun x=>!(g x)))=l.all g:=by
 induction l with
 |nil=>rfl
 |cons x l ih=>rw[List.any_cons,List.all_cons,<-ih];cases g x<;>simp
theorem zI5{d:Nat}{t:T}(e:d<=1000)(h:∀S,call 221 [.agg t.cells,.sc (.int .i64 (d:Nat))] S=some (.sc (.bool (t.shp d)),S)):
 call 321 [.agg t.cells,.iptr [.sc (.int .i64 ((d:Int)+1))]] S=some (.sc (.bool (!(t.shp d))),S):=by
 rw[zi zxa rfl (by simp) rfl];have c:IntKind.i64.wrap (d:Int)=(d:Int):=w64 (by omega);simp[f321,zqc,h,c]
theorem zua:∀{d:Nat} {t:T} {S:AS},d<=1000->t.fits->call 221 [.agg t.cells,.sc (.int .i64 (d:Nat))] S=some (.sc (.bool (t.shp d)),S)
 |0,t,S,_,_=>by
  rw[zi znM rfl (by simp) rfl];simp[zaB,zb9,T.shp]
 |d+1,t,S,hd,hf=>by
  obtain⟨n,p⟩:=T.fits_kids hf;rw[zi znM rfl (by simp) rfl];have f:¬((d:Int)+1=0):=by omega
  have c:=fun S'=>@zui S' (.fn 321 [] [.iptr [.sc (.int .i64 ((d:Int)+1))]]) 321 [.iptr [.sc (.int .i64 ((d:Int)+1))]] t.kids (fun t=>!(t.shp d)) rfl n (fun u q v=>zI5 (by omega) (fun S=>zua (by omega) (p u q)));rw[T.shp,<-znU];unfold T.one;simp only[bne];by_cases e:knd t.kind=true
  ·by_cases g:(nmd t.kind==decide (t.name=⟨#[]⟩))=true
   ·simp[zaB,zb9,f,e,wZ,zfu e,g]
   ·by_cases h:0<=kdn t.kind
    ·by_cases k:(t.kids.length:Int)=kdn t.kind
     ·simp[zaB,zb9,f,e,wZ,zfu e,g,h,k,c]
     ·have j:¬kdn t.kind<0:=by omega
      simp[zaB,zb9,f,e,wZ,zfu e,g,h,k,j,c]
    ·have j:kdn t.kind<0:=by omega
     simp[zaB,zb9,f,e,wZ,zfu e,g,h,j,c]
  ·simp[zaB,zb9,f,e]
end
def T.dep:Nat->T->Nat
 |0,_=>0
 |1,_=>1
 |d+2,t=>(t.kids.foldl (fun n k=>max n (T.dep (d+1) k)) 0)+1
def qj(d:Nat)(l:List T):Nat:=l.foldl (fun n k=>max n (T.dep d k)) 0
theorem zzU{d:Nat}{l:List T}{k:T}:qj d (l++[k])=max (qj d l) (k.dep d):=by simp[qj]
theorem zoz{d i:Nat}{l:List T}{k:T}(h:l[i]?=some k):qj d (l.take (i+1))=max (qj d (l.take i)) (k.dep d):=by
 rw[xav,h];exact zzU
theorem zlI{d b:Nat}{g:T->Nat}:∀{l:List T} {n:Nat},n<=b->(∀k∈l,g k<=b)->l.foldl (fun n k=>max n (g k)) n<=b
 |[],n,hn,_=>hn
 |k::l,n,hn,h=>zlI (d:=d) (l:=l) (Nat.max_le.2 ⟨hn,h k (by simp)⟩) fun x c=>h x (by simp[c])
theorem T.dep_le:∀{d:Nat} {t:T},t.dep d<=d
 |0,_=>xad _
 |1,_=>xad _
 |d+2,t=>by
  rw[T.dep];have:=@zlI d (d+1) (T.dep (d+1)) t.kids 0 (Nat.zero_le _) fun k _=>T.dep_le;omega
theorem zoy{d:Nat}{l:List T}:qj d l<=d:=zlI (d:=d) (Nat.zero_le _) fun _ _=>T.dep_le
section
theorem zub:∀{d:Nat} {t:T} {S:AS},d<=1000->t.fits->call 223 [.agg t.cells,.sc (.int .i64 (d:Nat))] S=some (.sc (.int .i64 (t.dep d:Nat)),S)
 |0,t,S,_,_=>by
  rw[zi zj5 rfl (by simp) rfl];simp[zdg,zhc,T.dep]
 |1,t,S,_,_=>by
  rw[zi zj5 rfl (by simp) rfl];simp[zdg,zhc,T.dep]
 |d+2,t,S,hd,hf=>by
  obtain⟨K,B⟩:=T.fits_kids hf;rw[zi zj5 rfl (by simp) rfl];have C:¬((d:Int)+2<=1):=by omega
  have D:IntKind.i64.wrap ((d:Int)+2-1)=((d+1:Nat):Int):=by rw[w64 (by omega)];omega
  rw[T.dep];simp only[zdg];simp[-zg,zhc,C];refine zdI (α:=Nat) (R:=fun _ r=>zW S r=some (.sc (.int .i64 ((qj (d+1) t.kids:Nat)+1)),S)) (fun i e rg S'=>i<=t.kids.length/\NQ [7,15,16,17,18,19,20,21,22,23,24] [7] e/\e 1=.sc (.int .i64 ((d:Int)+2))/\e 5=.sc (.int .i64 (qj (d+1) (t.kids.take i):Nat))/\e 12=zh t.kids/\e 13=.sc (.int .i64 (t.kids.length:Nat))/\e 14=.sc (.int .i64 (i:Nat))) (fun i=>t.kids.length-i) (fun _ _ _ _ h=>h.2.1) ?_ 0 _ _ _ ?_;rotate_left
  ·refine⟨by omega,?_,by simp,by simp[qj],by simp,by simp,by simp⟩
   repeat (first|exact zan rfl|refine vC ?_ (by simp))
  intro L v i e rg S' ⟨M,E,w,q,f,g,j⟩ ih;by_cases A:i<t.kids.length
  ·obtain⟨k,c⟩:=yV A;have F:=xaj c;have G:IntKind.i64.wrap ((i:Int)+1)=((i+1:Nat):Int):=w64 (by omega);have n:∀S,call 223 [.agg k.cells,.sc (.int .i64 ((d:Int)+1))] S=some (.sc (.int .i64 (k.dep (d+1):Nat)),S):=fun S=>@zub (d+1) k S (by omega) (B k F);have p:(max (qj (d+1) (t.kids.take i):Int) (k.dep (d+1):Int))=(qj (d+1) (t.kids.take (i+1)):Nat):=by rw[zoz c];omega
   simp[-zg,zk2,w,q,f,g,j,A,zJ c,D,G,n]
   try rw[p]
   refine ih (i+1) _ _ _ (by omega) (fun _ h=>h) ?_;refine⟨by omega,?_,by simp[w],by simp[p],by simp[f],by simp[g],by simp⟩
   repeat (first|exact zcM E|refine vC ?_ (by simp))
  ·have z:i=t.kids.length:=by omega
   subst z;rw[xax]at q;have I:=@zoy (d+1) t.kids;have J:IntKind.i64.wrap ((qj (d+1) t.kids:Int)+1)=(qj (d+1) t.kids:Int)+1:=w64 (by omega);simp[-zg,zk2,w,q,f,g,j];rw[v];simp[q,J]
theorem zJA{a b:T}{rg:Nat->Option (List AV)}{S:AS}{ks:List Kn}(w:rg 2=some a.cells)(A:rg 3=some b.cells)
 (L:a.kids.length=b.kids.length) (M:a.kids.length<=4611686018427387904)
 (ih:∀t∈a.kids,∀u,call 114 [.agg t.cells,.agg u.cells] S=some (.sc (.bool (t.same u)),S))
 (C:∀e,e 4=.sc (.bool false)->fin [.tmp 4] (unw AA (some (.ret,st 48 e rg S)) ks)=some (.sc (.bool false),S))
 (D:∀e,fin [.tmp 4] (unw AA (some (.exit 0,st 48 e rg S)) ks)=some (.sc (.bool true),S)):
 ∀(n i:Nat) (e:Nat->AV) (tm:List Nat),n+i=a.kids.length->tm=[4,6,28,29,30,31,32,33,34,35,36,37,38,39,40,41,42,43,44,45,46,47]->e 2=.reg 2 0->e 3=.reg 3 0->e 5=.sc (.int .i64 i)->
  fin [.tmp 4] (zH AA (.loop tm [] zb5) (st 48 e rg S) ks)=some (.sc (.bool (qE (a.kids.drop i) (b.kids.drop i))),S):=by
 intro n
 induction n with
 |zero=>
  intro i e tm E c d f k;rw[jG];generalize g:Kn.loop tm [] zb5::ks=F;have p:¬(i:Int)<a.kids.length:=by omega
  simp[zb5,zn,c,d,f,k,w,p];rw[<-g];simp;rw[D,xaB (by omega),xaB (by omega)];rfl
 |succ n ihn=>
  intro i e tm E c d f k;rw[jG];generalize g:Kn.loop tm [] zb5::ks=F;have p:(i:Int)<a.kids.length:=by omega
  have B:i<a.kids.length:=by omega
  have h:i<b.kids.length:=by omega
  obtain⟨t,q⟩:∃t,a.kids[i]?=some t:=⟨a.kids[i],by simp[B]⟩;obtain⟨u,z⟩:∃u,b.kids[i]?=some u:=⟨b.kids[i],by simp[h]⟩;have G:qE (a.kids.drop i) (b.kids.drop i)=(t.same u&&qE (a.kids.drop (i+1)) (b.kids.drop (i+1))):=by
   obtain⟨_,I⟩:=xal.1 q;obtain⟨_,J⟩:=xal.1 z;rw[List.drop_eq_getElem_cons B,List.drop_eq_getElem_cons h,I,J];rfl
  have v:=ih t (xaj q) u;have K:IntKind.i64.wrap ((i:Int)+1)=((i+1:Nat):Int):=w64 (by omega);rw[G];cases j:t.same u with
  |false=>
   rw[j]at v;simp[zb5,zn,c,d,f,k,w,A,p,zJ q,zJ z,v];rw[<-g];simp;exact C _ (by simp[zn])
  |true=>
   rw[j]at v;simp[zb5,zn,c,d,f,k,w,A,p,zJ q,zJ z,v,K];rw[<-g,vR];exact ihn (i+1) _ tm (by omega) c (by simp[zn,c,d]) (by simp[zn,c,f]) (by simp[zn])
theorem zur:∀(n:Nat) (a b:T) (S:AS),sizeOf a<n->a.fits->call 114 [.agg a.cells,.agg b.cells] S=some (.sc (.bool (a.same b)),S)
 |0,_,_,_,h,_=>by omega
 |n+1,a,b,S,hn,hfit=>by
  obtain⟨d,c⟩:=T.fits_kids hfit;rw[zi zvv rfl (by simp) rfl];simp only[zgJ];rw[T.same_def];by_cases f:a.kind=b.kind
  ·by_cases j:a.name=b.name
   ·by_cases g:a.kids.length=b.kids.length
    ·simp[zeH,zn,qR,f,j,g];refine(congrArg (zW S) (zJA (a:=a) (b:=b) (by simp[qR]) (by simp[qR]) g d
      (fun t p u=>zur n t u _ (by have:=T.kid_lt p;omega) (c t p)) ?_ ?_ a.kids.length 0 _ _ (by omega) rfl (by simp[zn]) (by simp[zn]) (by simp[zn]))).trans ?_
     ·intro e q;simp[q,yD,yN]
     ·intro e;simp[zn,yD,yN]
     ·simp[kT]
    ·have v:qE a.kids b.kids=false:=by
      rw[Bool.eq_false_iff];intro h;exact g (by rw[zfS.1 h])
     have k:¬(a.kids.length:Int)=b.kids.length:=by omega
     simp[zeH,zn,qR,f,j,g,k,v,yD,yN,kT]
   ·simp[zeH,zn,qR,f,j,yD,yN,kT]
  ·simp[zeH,zn,qR,f,yD,yN,kT]
@[simp] theorem zIv{a b:T}{S:AS}(h:a.fits):call 114 [.agg a.cells,.agg b.cells] S=some (.sc (.bool (a.same b)),S):=zur _ a b S (xay _) h
theorem zmV:∀{d:Nat} {t:T} {S:AS},d<=1000->t.fits->call 314 [.agg t.cells,.sc (.int .i64 (d:Nat))] S=some (.sc (.int .i64 (t.dep d:Nat)),S)
 |0,t,S,_,_=>by
  rw[zi zj6 rfl (by simp) rfl];simp[zdj,zhJ,T.dep]
 |1,t,S,_,_=>by
  rw[zi zj6 rfl (by simp) rfl];simp[zdj,zhJ,T.dep]
 |d+2,t,S,hd,hf=>by
  obtain⟨J,B⟩:=T.fits_kids hf;rw[zi zj6 rfl (by simp) rfl];have C:¬((d:Int)+2<=1):=by omega
  have D:IntKind.i64.wrap ((d:Int)+2-1)=((d+1:Nat):Int):=by rw[w64 (by omega)];omega
  rw[T.dep];simp only[zdj];simp[-zg,zhJ,C];refine y8 (α:=Nat) (R:=fun _ r=>zW S r=some (.sc (.int .i64 ((qj (d+1) t.kids:Nat)+1)),S)) (fun i e rg S'=>i<=t.kids.length/\e 1=.sc (.int .i64 ((d:Int)+2))/\e 2=.reg 2 0/\rg 2=some t.cells/\e 5=.sc (.int .i64 (qj (d+1) (t.kids.take i):Nat))/\e 6=.sc (.int .i64 (i:Nat))) (fun i=>t.kids.length-i) ?_ 0 _ _ _ ?_;rotate_left
  ·exact⟨by omega,by simp,by simp,by simp,by simp[qj],by simp⟩
  intro K g i e rg S' ⟨L,j,n,p,q,z⟩ ih;by_cases A:i<t.kids.length
  ·obtain⟨k,c⟩:=yV A;have E:=xaj c;have F:IntKind.i64.wrap ((i:Int)+1)=((i+1:Nat):Int):=w64 (by omega);have f:∀S,call 314 [.agg k.cells,.sc (.int .i64 ((d:Int)+1))] S=some (.sc (.int .i64 (k.dep (d+1):Nat)),S):=fun S=>@zmV (d+1) k S (by omega) (B k E);have v:(max (qj (d+1) (t.kids.take i):Int) (k.dep (d+1):Int))=(qj (d+1) (t.kids.take (i+1)):Nat):=by rw[zoz c];omega
   simp[-zg,zlc,j,n,p,q,z,A,zJ c,D,F,f];refine ih (i+1) _ _ _ (by omega) (fun _ h=>h) ?_;exact⟨by omega,by simp[j],by simp[n],by simp[p],by simpa using v,by simp⟩
  ·have w:i=t.kids.length:=by omega
   subst w;rw[xax]at q;have G:=@zoy (d+1) t.kids;have I:IntKind.i64.wrap ((qj (d+1) t.kids:Int)+1)=(qj (d+1) t.kids:Int)+1:=w64 (by omega);simp[-zg,zlc,j,n,p,z];rw[g];simp[q,I]
def eqF(g:T->T->Bool):List T->List T->Bool
 |[],[]=>true
 |a::l,b::m=>g a b&&eqF g l m
 |_,_=>false
theorem zoV{g:T->T->Bool}:∀{l m:List T},eqF g l m=true->l.length=m.length
 |[],[],_=>rfl
 |a::l,b::m,h=>by
  simp only[eqF,xab]at h;simp[zoV h.2]
 |[],_::_,h=>by cases h
 |_::_,[],h=>by cases h
theorem zoW:∀{l m:List T},eqF T.same l m=qE l m
 |[],[]=>rfl
 |[],_::_=>rfl
 |_::_,[]=>rfl
 |a::l,b::m=>by rw[eqF,qE,zoW]
theorem zoU{g:T->T->Bool}{l m:List T}{i:Nat}{t u:T}(d:l[i]?=some t)(e:m[i]?=some u):eqF g (l.drop i) (m.drop i)=(g t u&&eqF g (l.drop (i+1)) (m.drop (i+1))):=by
 obtain⟨f,h⟩:=xal.1 d;obtain⟨c,j⟩:=xal.1 e;rw[List.drop_eq_getElem_cons f,List.drop_eq_getElem_cons c,h,j];rfl
theorem zIL{S:AS}{k:Nat}{l m:List T}{g:T->T->Bool}(I:l.length<=4611686018427387904)
 (D:∀t∈l,∀u S',call k [.agg t.cells,.agg u.cells] S'=some (.sc (.bool (g t u)),S')):call 224 [zh l,zh m,.fn k [] []] S=some (.sc (.bool (eqF g l m)),S):=by
 rw[z8 zwf (by simp) rfl];simp only[zhd];by_cases d:l.length=m.length
 ·simp[zk3,d];refine zdI (α:=Nat) (R:=fun i r=>r=some (.sc (.bool (eqF g (l.drop i) (m.drop i))),S)) (fun i e rg S'=>i<=l.length/\S'=S/\NQ [6,7,8,9,18,19,20,21,22,23,24,25,26,27,28,29,30,31] [8,9] e/\e 1=zh m/\e 2=.fn k [] []/\e 15=zh l/\e 16=.sc (.int .i64 (l.length:Nat))/\e 17=.sc (.int .i64 (i:Nat))) (fun i=>l.length-i) (fun _ _ _ _ h=>h.2.2.1) ?_ 0 _ _ _ ?_;rotate_left
  ·refine⟨by omega,rfl,?_,by simp,by simp,by simp,by simp[d],by simp⟩
   repeat (first|exact zan rfl|refine vC ?_ (by simp))
  intro J q i e rg S' ⟨K,hS,E,w,p,f,j,n⟩ ih;subst hS;by_cases B:i<l.length
  ·obtain⟨t,v⟩:=yV B;obtain⟨u,z⟩:=yV (l:=m) (i:=i) (by omega);have F:IntKind.i64.wrap ((i:Int)+1)=((i+1:Nat):Int):=w64 (by omega);have c:=D t (xaj v) u;cases A:g t u with
   |false=>
    rw[A]at c;rw[zoU v z,A];simp[zhe,w,p,f,j,n,B,zJ v,zJ z,c,zrc];rw[q];simp
   |true=>
    rw[A]at c;simp[zhe,w,p,f,j,n,B,zJ v,zJ z,c,F];refine ih (i+1) _ _ _ (by omega) (fun _ h=>?_) ?_
    ·rw[h];rw[zoU v z,A];simp
    ·refine⟨by omega,rfl,?_,by simp[w],by simp[p],by simp[f],by simp[j],by simp⟩
     repeat (first|exact zcM E|refine vC ?_ (by simp))
  ·have C:i=l.length:=by omega
   subst C;simp[zhe,w,p,f,j,n,eqF];rw[q,d];simp[eqF]
 ·have p:¬((l.length:Int)=m.length):=by omega
  have G:eqF g l m=false:=by
   rw[Bool.eq_false_iff];exact fun h=>d (zoV h)
  simp[zk3,p,G]
theorem zut:∀(n:Nat) (a b:T) (S:AS),sizeOf a<n->a.fits->call 118 [.agg a.cells,.agg b.cells] S=some (.sc (.bool (a.same b)),S)
 |0,_,_,_,h,_=>by omega
 |n+1,a,b,S,hn,hfit=>by
  obtain⟨e,d⟩:=T.fits_kids hfit;rw[zi zvy rfl (by simp) rfl];have c:=fun S=>@zIL S 118 a.kids b.kids T.same e (fun t g u S'=>zut n t u S' (by have:=T.kid_lt g;omega) (d t g));rw[zoW]at c;rw[T.same_def];by_cases f:a.kind=b.kind
  ·by_cases j:a.name=b.name
   ·simp[zda,zgL,f,j,c]
   ·simp[zda,zgL,f,j]
  ·simp[zda,zgL,f]
@[simp] theorem zOj{a b:T}{S:AS}(h:a.fits):call 118 [.agg a.cells,.agg b.cells] S=some (.sc (.bool (a.same b)),S):=zut _ a b S (xay _) h
@[simp] theorem zOi{t:T}{S:AS}(h:t.fits):call 117 [.agg t.cells] S=some (.sc (.int .i64 (t.dep 61:Nat)),S):=by
 rw[zi zvx rfl (by simp) rfl];have e:∀S,call 223 [.agg t.cells,.i 61] S=some (.sc (.int .i64 (t.dep 61:Nat)),S):=fun S=>@zub 61 t S (by omega) h;simp[zgK,zpc,e]
end
def jy(k:T)(n:Int):T:=qq k (⟨#[117,115,101,32]⟩++zE n)
def ji(k:T)(n:Int):T:=qq k (⟨#[111,116,112,32]⟩++zE n)
def tWd(k:T):T:=qq k ⟨#[119,111,114,100]⟩
def kL(a b:T)(f g:ByteArray):T:=yC (zS [qq a (⟨#[106,111,105,110,32]⟩++f),qq b (⟨#[106,111,105,110,32]⟩++g)])
def zal(s w o a b:T)(n:Int):T:=jy (yC (zS [s,w,o,a,b])) n
def jk(k:T)(n:Int)(t:T):T:=jI (jy k n) t
def vB(k:T)(n:Int):List T->T×Int
 |[a,b]=>if a.same (jy k n)then(b,0)else(tZ,4)
 |_=>(tZ,2)
def jz(k:T)(n:Int)(t:T):T×Int:=if t.kind=4 then vB k n t.kids else(tZ,2)
section
variable{S:AS}
theorem zul{a:T}{w:ByteArray}{n:Int}(h:w.size<=1000)(c:inI n):call 368 [.agg a.cells,.sc (.string w),.sc (.int .i64 n)] S=some (.agg (qq a (w++⟨#[32]⟩++zE n)).cells,S):=by
 rw[zi zxG rfl (by simp) rfl];have d:=fun S=>@zbY S n c;have e:(⟨#[32]⟩:ByteArray).size=1:=rfl;have f:=yz (x:=w) (y:=⟨#[32]⟩) (by omega);have j:=vN c.1 c.2;have g:=yz (x:=w++⟨#[32]⟩) (y:=zE n) (by rw[xai];omega);simp[zh8,zqv,d,f,g]
theorem zjG{a:T}{n:Int}(d:inI n):call 354 [.agg a.cells,.sc (.int .i64 n)] S=some (.agg (jy a n).cells,S):=by
 rw[zi zxz rfl (by simp) rfl];have c:=fun S=>@zul S a ⟨#[117,115,101]⟩ n (by show 3<=1000;omega) d;have e:(⟨#[117,115,101]⟩:ByteArray)++⟨#[32]⟩=⟨#[117,115,101,32]⟩:=rfl;rw[e]at c;simp[zh0,zqo,c,jy]
theorem zIV{a:T}{n:Int}(d:inI n):call 278 [.agg a.cells,.sc (.int .i64 n)] S=some (.agg (ji a n).cells,S):=by
 rw[zi zwL rfl (by simp) rfl];have c:=fun S=>@zul S a ⟨#[111,116,112]⟩ n (by show 3<=1000;omega) d;have e:(⟨#[111,116,112]⟩:ByteArray)++⟨#[32]⟩=⟨#[111,116,112,32]⟩:=rfl;rw[e]at c;simp[zhB,zpZ,c,ji]
theorem zjF{a:T}{n:Int}(c:inI n)(g:n≠ -9223372036854775808):call 336 [.agg a.cells,.sc (.int .i64 n)] S=some (.agg (jy a n).cells,S):=by
 rw[zi zxj rfl (by simp) rfl];have d:=fun S=>@zbH S n (by have:=c.1;omega) c.2;have e:(⟨#[117,115,101,32]⟩:ByteArray).size=4:=rfl;have h:=vN c.1 c.2;have f:=yz (x:=⟨#[117,115,101,32]⟩) (y:=zE n) (by omega);simp[zhP,zqj,d,f,jy]
theorem zmN{a:T}{n:Int}(c:inI n)(g:n≠ -9223372036854775808):call 158 [.agg a.cells,.sc (.int .i64 n)] S=some (.agg (ji a n).cells,S):=by
 rw[zi zvQ rfl (by simp) rfl];have d:=fun S=>@zbH S n (by have:=c.1;omega) c.2;have e:(⟨#[111,116,112,32]⟩:ByteArray).size=4:=rfl;have h:=vN c.1 c.2;have f:=yz (x:=⟨#[111,116,112,32]⟩) (y:=zE n) (by omega);simp[zgX,zpp,d,f,ji]
@[simp] theorem zOB{a:T}:call 363 [.agg a.cells] S=some (.agg (tWd a).cells,S):=by
 rw[zi zxC rfl (by simp) rfl];simp[zh3,zqr,tWd]
theorem zmY{a b:T}{f g:ByteArray}(h:f.size<=1000)(j:g.size<=1000):call 350 [.agg a.cells,.agg b.cells,.sc (.string f),.sc (.string g)] S=some (.agg (kL a b f g).cells,S):=by
 rw[zi zxw rfl (by simp) rfl];have k:(⟨#[106,111,105,110,32]⟩:ByteArray).size=5:=rfl;have c:=yz (x:=⟨#[106,111,105,110,32]⟩) (y:=f) (by omega);have d:=yz (x:=⟨#[106,111,105,110,32]⟩) (y:=g) (by omega);have e:∀(S:AS) (x y:T),call 126 [.lst 3 true [x.cells,y.cells]] S=some (.agg (zS [x,y]).cells,S):=fun S x y=>zdY zi5 (by show 2*48<=_;omega);simp[zhX,zqm,c,d,e,kL,zj]
theorem zs4{f:Bool}{l:List T}(c:l≠[])(k:l.length*48<=140737488355328):call 385 [.lst 3 f (l.map T.cells)] S=some (.agg (zS l).cells,S):=by
 rw[kr zxW (args':=[zh l]) (by first|rw[yL,yL,zfB _ _ _ (fun _=>rfl)]|simp) (by first|rw[yL,yL,zfB _ _ _ (fun _=>rfl)]|simp) rfl];have e:=@zog S (AS.new ⟨S.heap,S.n,S.n⟩ (.rows 3 (l.map T.cells))) 3 ⟨#[]⟩ S.n 0 l.length none l (by
  have:=@wk (AS.new ⟨S.heap,S.n,S.n⟩ (.rows 3 (l.map T.cells))) S.n S.n 3 _ jX (xad _);simpa using this)
 have g:∀d rg,ze (.append 3 48) d rg ⟨S.heap,S.n,S.n⟩ [.lst 3 true [],zh l]=some (.arr S.n 3 0 l.length none,none,AS.new ⟨S.heap,S.n,S.n⟩ (.rows 3 (l.map T.cells))):=fun d rg=>by
  have p:zD 3 ⟨S.heap,S.n,S.n⟩ (zh l)=some (l.map T.cells):=zjg _ l;have j:(l.map T.cells).isEmpty=false:=by cases l with|nil=>exact absurd rfl c|cons _ _=>rfl
  simp[ze,p,jq,j,k];exact fun h=>absurd h c
 simp only[zil];simp[-zg,zqD,g,zj];exact e
theorem zmU{a b:T}{f g:ByteArray}(h:f.size<=1000)(j:g.size<=1000):call 293 [.agg a.cells,.agg b.cells,.sc (.string f),.sc (.string g)] S=some (.agg (kL a b f g).cells,S):=by
 rw[zi zwZ rfl (by simp) rfl];have k:(⟨#[106,111,105,110,32]⟩:ByteArray).size=5:=rfl;have c:=yz (x:=⟨#[106,111,105,110,32]⟩) (y:=f) (by omega);have d:=yz (x:=⟨#[106,111,105,110,32]⟩) (y:=g) (by omega);have e:∀(S:AS) (x y:T),call 385 [.lst 3 true [x.cells,y.cells]] S=some (.agg (zS [x,y]).cells,S):=fun S x y=>zs4 (l:=[x,y]) (by simp) (by simp);simp[zhG,zp7,c,d,e,kL,zj]
theorem zJj{s w o a b:T}{n:Int}(c:inI n):call 364 [.agg s.cells,.agg w.cells,.agg o.cells,.agg a.cells,.agg b.cells,.sc (.int .i64 n)] S=some (.agg (zal s w o a b n).cells,S):=by
 rw[zi zxD rfl (by simp) rfl];have d:∀(S:AS),call 126 [.lst 3 true [s.cells,w.cells,o.cells,a.cells,b.cells]] S=some (.agg (zS [s,w,o,a,b]).cells,S):=fun S=>zdY (k9 (l:=[s,w,o,a,b])) (by show 5*48<=_;omega);have e:=fun S k=>@zjG S k n c;simp[zh4,zqs,d,e,zal,zj]
theorem zmQ{k t:T}{n:Int}(c:inI n):call 261 [.agg k.cells,.sc (.int .i64 n),.agg t.cells] S=some (.agg (jk k n t).cells,S):=by
 rw[zi zwu rfl (by simp) rfl];have d:=fun S=>@zjG S k n c;simp[zhp,zpQ,d,jk]
theorem zbI{k t:T}{n:Int}(c:inI n)(d:n≠ -9223372036854775808):call 266 [.agg k.cells,.sc (.int .i64 n),.agg t.cells] S=some (.agg (jk k n t).cells,S):=by
 rw[zi zwz rfl (by simp) rfl];have e:=fun S=>@zjF S k n c d;simp[zhs,zpT,e,jk]
def zt(r:T×Int):AV:=.tup [.agg r.1.cells,.sc (.int .i64 r.2)]
theorem zmR{k t:T}{n:Int}(z:inI n)(A:t.fits):call 263 [.agg k.cells,.sc (.int .i64 n),.agg t.cells] S=some (zt (jz k n t),S):=by
 rw[zi zww rfl (by simp) rfl];have p:=fun S=>@zjG S k n z;unfold jz;by_cases e:t.kind=4
 ·rw[if_pos e];by_cases h:t.kids.length=2
  ·obtain⟨a,b,c⟩:∃a b,t.kids=[a,b]:=by
    match B:t.kids,h with
    |[a,b],_=>exact⟨a,b,rfl⟩
   have q:pev (.iaddr 3) [zh t.kids,.i 0]=some (.iptr a.cells):=zJ (i:=0) (by rw[c];rfl);have v:pev (.iaddr 3) [zh t.kids,.i 1]=some (.iptr b.cells):=zJ (i:=1) (by rw[c];rfl);have w:a.fits:=(T.fits_kids A).2 a (by rw[c];simp);have d:(t.kids.length:Int)=2:=by omega
   cases g:a.same (jy k n)with
   |true=>
    have f:vB k n t.kids=(b,0):=by rw[c];simp[vB,g]
    rw[f];simp[zcb,zeT,eq_true e,d,q,v,w,p,g,zt]
   |false=>
    have f:vB k n t.kids=(tZ,4):=by rw[c];simp[vB,g]
    rw[f];simp[zcb,zeT,eq_true e,d,q,v,w,p,g,zt,tZ,T.cells,ym];rfl
  ·have f:vB k n t.kids=(tZ,2):=by
    unfold vB;split
    ·rename_i j;rw[j]at h;simp at h
    ·rfl
   rw[f];have d:¬(t.kids.length:Int)=2:=by omega
   simp[zcb,zeT,eq_true e,d,zt,tZ,T.cells,ym];rfl
 ·rw[if_neg e];simp[zcb,zeT,e,zt,tZ,T.cells,ym];rfl
theorem zmS{k t:T}{n:Int}(z:inI n)(A:n≠ -9223372036854775808)(B:t.fits):call 268 [.agg k.cells,.sc (.int .i64 n),.agg t.cells] S=some (zt (jz k n t),S):=by
 rw[zi zwB rfl (by simp) rfl];have p:=fun S=>@zjF S k n z A;unfold jz;by_cases e:t.kind=4
 ·rw[if_pos e];by_cases h:t.kids.length=2
  ·obtain⟨a,b,c⟩:∃a b,t.kids=[a,b]:=by
    match C:t.kids,h with
    |[a,b],_=>exact⟨a,b,rfl⟩
   have q:pev (.iaddr 3) [zh t.kids,.i 0]=some (.iptr a.cells):=zJ (i:=0) (by rw[c];rfl);have v:pev (.iaddr 3) [zh t.kids,.i 1]=some (.iptr b.cells):=zJ (i:=1) (by rw[c];rfl);have w:a.fits:=(T.fits_kids B).2 a (by rw[c];simp);have d:(t.kids.length:Int)=2:=by omega
   cases g:a.same (jy k n)with
   |true=>
    have f:vB k n t.kids=(b,0):=by rw[c];simp[vB,g]
    rw[f];simp[zcc,zeU,eq_true e,d,q,v,w,p,g,zt]
   |false=>
    have f:vB k n t.kids=(tZ,4):=by rw[c];simp[vB,g]
    rw[f];simp[zcc,zeU,eq_true e,d,q,v,w,p,g,zt,tZ,T.cells,ym];rfl
  ·have f:vB k n t.kids=(tZ,2):=by
    unfold vB;split
    ·rename_i j;rw[j]at h;simp at h
    ·rfl
   rw[f];have d:¬(t.kids.length:Int)=2:=by omega
   simp[zcc,zeU,eq_true e,d,zt,tZ,T.cells,ym];rfl
 ·rw[if_neg e];simp[zcc,zeU,e,zt,tZ,T.cells,ym];rfl
end
def zr:ByteArray:=⟨#[99,104,97,108,108,101,110,103,101]⟩
def ko:ByteArray:=⟨#[116,105,109,101]⟩
def zbd:ByteArray:=⟨#[99,108,105,101,110,116,99,104,97,108,108,101,110,103,101,97,114,109,111,114]⟩
def zbA:ByteArray:=⟨#[99,104,97,108,108,101,110,103,101,108,111,110,103,116,101,114,109]⟩
def tCk(a u:T):T:=kL a u zbd zbA
def zcH(body:T)(now:Int):T:=zG ko [qG now,yC body]
def za6(a u body:T)(now:Int):T:=zG zr [jk (tCk a u) 54 (zcH body now)]
def zey(body b:T)(now n:Int):Int:=if b.same (yC body)then(if(n-now).natAbs > 5 then 5 else 0)else 6
noncomputable def zex(body:T)(now:Int):List T->Int
 |[a,b]=>match ke a with
  |some n=>zey body b now n
  |none=>2
 |_=>2
noncomputable def zeA(body:T)(now:Int)(r:T×Int):Int:=if r.2=4 then 6 else if r.2=0 then(match zX ko 2 r.1 with|some l=>zex body now l|none=>2)else r.2
noncomputable def wU(a u body p:T)(now:Int):Int:=match zX zr 1 p with
 |some [x]=>zeA body now (jz (tCk a u) 54 x)
 |_=>2
theorem zAa{s:ByteArray}{o:Option Nat}{n:Int}{b:Nat}(h:wv s o=some n)(d:∀k,o=some k->k<b):n.natAbs<b:=by
 unfold wv at h;obtain⟨k,e,h⟩:=xaa.1 h;have:=d k e;by_cases c:s.data[0]?=some 45
 ·simp only[c,if_true]at h;split at h
  ·cases h;omega
  ·cases h
 ·simp only[c,if_false]at h;split at h
  ·cases h;omega
  ·cases h
theorem zsJ{t:T}{n:Int}(h:ke t=some n):n.natAbs<1000000000000000000:=by
 unfold ke at h;obtain⟨s,_,h⟩:=xaa.1 h;split at h
 ·rename_i c;rw[<-zoQ c]at h;refine zAa h fun k e=>?_;have f:=zjK (k:=0) (by omega) e;have d:10^(0+s.data.toList.length)<=10^18:=Nat.pow_le_pow_right (by omega) (by simp;omega);omega
 ·cases h
section
variable{S:AS}
theorem zIQ{a u:T}:call 262 [.agg a.cells,.agg u.cells] S=some (.agg (tCk a u).cells,S):=by
 rw[zi zwv rfl (by simp) rfl];have c:=fun S=>@zmY S a u zbd zbA (by show 20<=1000;omega) (by show 17<=1000;omega);simp only[zbd,zbA]at c;simp[zhq,zpR,c,tCk,zbd,zbA]
theorem zud{a u:T}:call 267 [.agg a.cells,.agg u.cells] S=some (.agg (tCk a u).cells,S):=by
 rw[zi zwA rfl (by simp) rfl];have c:=fun S=>@zmU S a u zbd zbA (by show 20<=1000;omega) (by show 17<=1000;omega);simp only[zbd,zbA]at c;simp[zht,zpU,c,tCk,zbd,zbA]
theorem i54:inI 54:=by unfold inI;omega
theorem zIA{a u body:T}{now:Int}(c:inI now)(j:now≠ -9223372036854775808):call 150 [.agg a.cells,.agg u.cells,.agg body.cells,.sc (.int .i64 now)] S=some (.agg (za6 a u body now).cells,S):=by
 rw[zi zvL rfl (by simp) rfl];have d:=fun S=>@s67 S now (by have:=c.1;omega) c.2;have e:∀S,call 63 [.s ⟨#[116,105,109,101]⟩,.lst 3 true [(qG now).cells,(yC body).cells]] S=some (.agg (zcH body now).cells,S):=fun S=>p63 zi5 (by show 3*48<=_;omega);have f:∀S,call 63 [.s ⟨#[99,104,97,108,108,101,110,103,101]⟩,.lst 3 true [(jk (tCk a u) 54 (zcH body now)).cells]] S=some (.agg (za6 a u body now).cells,S):=fun S=>p63 zfs (by show 2*48<=_;omega);have g:=fun S=>@zbI S (tCk a u) (zcH body now) 54 i54 (by omega);have h:=fun S=>@zud S a u;simp[zgU,zpm,d,e,f,g,h,zj]
theorem zIR{a b:Int}(v:a.natAbs<1000000000000000000)(w:b.natAbs<=1000000000000000):call 264 [.sc (.int .i64 a),.sc (.int .i64 b)] S=some (.sc (.int .i64 (if(a-b).natAbs > 5 then 6 else(a-b).natAbs)),S):=by
 rw[zi zwx rfl (by simp) rfl];have f:IntKind.i64.wrap (a+5)=a+5:=w64 (by omega);have g:IntKind.i64.wrap (a+5+1)=a+5+1:=w64 (by omega);have p:IntKind.i64.wrap (b+5)=b+5:=w64 (by omega);have q:IntKind.i64.wrap (b+5+1)=b+5+1:=w64 (by omega);have j:IntKind.i64.wrap (a-b)=a-b:=w64 (by omega);have k:IntKind.i64.wrap (b-a)=b-a:=w64 (by omega);by_cases h:a<b
 ·have n:((a-b).natAbs:Int)=b-a:=by omega
  by_cases c:a<0
  ·by_cases e:a+5+1<b
   ·rw[if_pos (by omega)];simp[kC,wC,h,c,f,g,k,e]
   ·by_cases d:5<b-a
    ·rw[if_pos (by omega)];simp[kC,wC,h,c,f,g,k,e,d]
    ·rw[if_neg (by omega)];simp[kC,wC,h,c,f,g,k,e,d,n]
  ·by_cases d:5<b-a
   ·rw[if_pos (by omega)];simp[kC,wC,h,c,f,g,k,d]
   ·rw[if_neg (by omega)];simp[kC,wC,h,c,f,g,k,d,n]
 ·have n:((a-b).natAbs:Int)=a-b:=by omega
  by_cases c:b<0
  ·by_cases e:b+5+1<a
   ·rw[if_pos (by omega)];simp[kC,wC,h,c,p,q,j,e]
   ·by_cases d:5<a-b
    ·rw[if_pos (by omega)];simp[kC,wC,h,c,p,q,j,e,d]
    ·rw[if_neg (by omega)];simp[kC,wC,h,c,p,q,j,e,d,n]
  ·by_cases d:5<a-b
   ·rw[if_pos (by omega)];simp[kC,wC,h,c,j,d]
   ·rw[if_neg (by omega)];simp[kC,wC,h,c,j,d,n]
end
mutual
def T.bd(r:Nat):T->Prop
 | .mk _ n l=>n.size<=r/\l.length*48<=r/\bdL r l
def bdL(r:Nat):List T->Prop
 |[]=>True
 |t::l=>t.bd r/\bdL r l
end
mutual
def T.bulk:T->Nat
 | .mk _ n l=>1+(n.size+1)+(yF l+1)+1
def yF:List T->Nat
 |[]=>0
 |t::l=>t.bulk+yF l
end
theorem zkh{r:Nat}:∀{l:List T},bdL r l↔∀t∈l,t.bd r
 |[]=>by simp[bdL]
 |t::l=>by simp[bdL,zkh (l:=l)]
theorem zko:∀{l:List T},∀t∈l,t.bulk<=yF l
 |[],t,h=>by cases h
 |a::l,t,h=>by
  rcases xaz.1 h with rfl|h
  ·rw[yF];omega
  ·have:=zko t h;rw[yF];omega
theorem zkn:∀{l:List T},l.length<=yF l
 |[]=>Nat.zero_le _
 | .mk k n m::l=>by
   have:=@zkn l;rw[yF,T.bulk,xaI];omega
mutual
theorem T.fits_bd{r:Nat}(c:r<=4611686018427387904):∀{t:T},t.bd r->t.fits
 | .mk _ _ l,h=>⟨by have:=h.2.1;omega,zrh c h.2.2⟩
theorem zrh{r:Nat}(c:r<=4611686018427387904):∀{l:List T},bdL r l->wY l
 |[],_=>trivial
 |t::l,h=>⟨t.fits_bd c h.1,zrh c h.2⟩
end
mutual
theorem T.bd_bulk:∀{t:T} {n:Nat},t.bulk<=n->t.bd (48*n)
 | .mk k m l,n,h=>by
   rw[T.bulk]at h;have:=@zkn l;refine⟨by omega,by omega,zn8 (l:=l) (n:=n) (by omega)⟩
theorem zn8:∀{l:List T} {n:Nat},yF l<=n->bdL (48*n) l
 |[],_,_=>trivial
 |t::l,n,h=>by
  rw[yF]at h;exact⟨T.bd_bulk (by omega),zn8 (by omega)⟩
end
structure zKI{H:Type}(B:DataW H->Nat)(BA:List (DataW H)->Nat):Prop where
 str:∀l,B (.lit (.string l))=l.length+1
 int:∀k n,B (.lit (.int k n))=1
 bool:∀b,B (.lit (.bool b))=1
 nil:B .nil=1
 agg:∀ds,B (.agg ds)=BA ds+1
 slice:∀ds rest,B (.slice ds rest)=BA ds+BA rest+1
 nilA:BA []=0
 consA:∀d r,BA (d::r)=B d+BA r
structure zvo(P:Program)(t i s l:TypeId)(fs:Array Field):Prop where
 hs:P.underlying t=some (.struct fs)
 hf:fs.toList.map (·.type)=[i,s,l]
 hi:P.underlying i=some (.int .i64)
 hst:P.underlying s=some .string
 hl:P.underlying l=some (.slice t)
 hc:P.cellsOf t=3
 hb:P.bytesOf t=48
section
variable{H:Type}{P:Program}{t i s l:TypeId}{fs:Array Field}
theorem zHs{k:IntKind}{d:DataW H}{as:List AV}(c:P.underlying i=some (.int k))(h:Rd P i d as):∃n,as=[.sc (.int k n)]/\(Lit.int k n).wf=true/\d=.lit (.int k n):=by
 cases h with
 |int h hw=>rw[c]at h;cases h;exact⟨_,rfl,hw,rfl⟩
 |str h=>rw[c]at h;cases h
 |bool h=>rw[c]at h;cases h
 |slice h=>rw[c]at h;cases h
 |nil h=>rw[c]at h;cases h
 |struct h=>rw[c]at h;cases h
theorem zHq{ts:List TypeId}{ds:List (DataW H)}{avs:List AV}(h:kO P (t::ts) ds avs):∃d r as l,ds=d::r/\avs=wu P t as::l/\Rd P t d as/\kO P ts r l:=by
 cases h with
 |cons h t=>exact⟨_,_,_,_,rfl,rfl,h,t⟩
theorem zHr{ds:List (DataW H)}{avs:List AV}(h:kO P [] ds avs):ds=[]/\avs=[]:=by cases h;exact⟨rfl,rfl⟩
def Rch(P:Program)(r:Nat)(ts:List TypeId)(ds:List (DataW H)):Prop:=(DataW.weightsEach P ts ds).all (· <=r)=true
theorem zHo{ts:List TypeId}{ds:List (DataW H)}{d:DataW H}{r:Nat}(h:Rch P r (t::ts) (d::ds)):(d.weights P t).all (· <=r)=true/\Rch P r ts ds:=by
 unfold Rch at h ⊢;rw[DataW.weightsEach,List.all_append,xab]at h;exact h
section
variable{r:Nat}{ts:List TypeId}{ds:List (DataW H)}{avs:List AV}
theorem zHn(h:kO P [] ds avs):avs=[]:=(zHr h).2
theorem ztk(e:P.underlying i=some (.int .i64))(h:kO P (i::ts) ds avs)(f:Rch P r (i::ts) ds):∃(n:Int) (c:List (DataW H)) (l:List AV),avs=.sc (.int .i64 n)::l/\(-9223372036854775808<=n/\n<=9223372036854775807)/\kO P ts c l/\Rch P r ts c:=by
 obtain⟨d,c,as,l,rfl,rfl,g,j⟩:=zHq h;obtain⟨n,rfl,k,rfl⟩:=zHs e g;exact⟨n,c,l,by rw[zyF e rfl],i64_in k,j,(zHo f).2⟩
end
end
mutual
def T.dp:T->Nat
 | .mk _ _ l=>dpL l+1
def dpL:List T->Nat
 |[]=>0
 |t::l=>max t.dp (dpL l)
end
mutual
def T.rshp:T->Bool
 | .mk k n l=>(T.mk k n l).one&&kh l
def kh:List T->Bool
 |[]=>true
 |t::l=>t.rshp&&kh l
end
theorem T.dp_def:∀t:T,t.dp=dpL t.kids+1
 | .mk _ _ _=>by rw[T.dp];rfl
theorem T.rshp_def:∀t:T,t.rshp=(t.one&&kh t.kids)
 | .mk _ _ _=>by rw[T.rshp];rfl
theorem zd9:∀{l:List T},kh l=true↔∀t∈l,t.rshp=true
 |[]=>by simp[kh]
 |t::l=>by simp[kh,zd9 (l:=l)]
theorem ztI:∀{l:List T},kh l=l.all T.rshp
 |[]=>rfl
 |t::l=>by rw[kh,List.all_cons,ztI]
theorem zoM:∀{l:List T},∀t∈l,t.dp<=dpL l
 |[],t,h=>by cases h
 |a::l,t,h=>by
  rw[dpL];rcases xaz.1 h with rfl|h
  ·exact Nat.le_max_left _ _
  ·exact xaD (zoM t h) (Nat.le_max_right _ _)
theorem T.dp_kid{t u:T}(h:u∈t.kids):u.dp+1<=t.dp:=by
 rw[t.dp_def];have:=zoM u h;omega
theorem T.dp_pos{t:T}:1<=t.dp:=by rw[T.dp_def];omega
theorem zox{d:Nat}:∀{l:List T} {n:Nat},(∀k∈l,T.dep d k=min d k.dp)->n<=d->l.foldl (fun n k=>max n (T.dep d k)) n=max n (min d (dpL l))
 |[],n,_,_=>by simp[dpL]
 |k::l,n,h,hn=>by
  rw[List.foldl_cons,zox (fun x c=>h x (by simp[c])) (by rw[h k (by simp)];omega),h k (by simp),dpL];omega
theorem T.dep_eq:∀{d:Nat} {t:T},t.dep d=min d t.dp
 |0,t=>by rw[T.dep];omega
 |1,t=>by rw[T.dep];have:=t.dp_pos;omega
 |d+2,t=>by
  rw[T.dep,zox (fun k _=>T.dep_eq) (Nat.zero_le _),t.dp_def];omega
theorem T.shp_eq:∀{d:Nat} {t:T},t.shp d=(t.rshp&&decide (t.dp<=d))
 |0,t=>by rw[T.shp];have:=t.dp_pos;simp;intro;omega
 |d+1,t=>by
  rw[T.shp,t.rshp_def,t.dp_def];have h:(t.kids.all fun k=>k.shp d)=(kh t.kids&&decide (dpL t.kids<=d)):=by
   generalize t.kids=l
   induction l with
   |nil=>simp[kh,dpL]
   |cons k l ih=>
    rw[List.all_cons,ih,T.shp_eq,kh,dpL];cases k.rshp<;>cases kh l<;>simp;by_cases c:k.dp<=d<;>by_cases e:dpL l<=d<;>simp[c,e]<;>omega
  show(t.one&&t.kids.all fun k=>k.shp d)=_;rw[h];cases t.one<;>simp
theorem T.one_iff{t:T}:t.one=true↔knd t.kind=true/\(nmd t.kind=true↔t.name≠⟨#[]⟩)/\(kdn t.kind<0\/(t.kids.length:Int)=kdn t.kind):=by
 unfold T.one;cases knd t.kind<;>cases nmd t.kind<;>by_cases h:t.name=⟨#[]⟩<;>simp[h]
section
variable{S:AS}
@[simp] theorem zOC{k:Int}:call 419 [.sc (.int .i64 k)] S=some (.sc (.int .i64 (if knd k then kdn k else -2)),S):=by
 rw[zi zx3 rfl (by simp) rfl];by_cases d:k=1
 ·subst d;simp[vZ,kW];rfl
 by_cases e:k=2
 ·subst e;simp[vZ,kW];rfl
 by_cases f:k=3
 ·subst f;simp[vZ,kW];rfl
 by_cases g:k=4
 ·subst g;simp[vZ,kW];rfl
 by_cases h:k=5
 ·subst h;simp[vZ,kW];rfl
 by_cases j:k=6
 ·subst j;simp[vZ,kW];rfl
 by_cases n:k=7
 ·subst n;simp[vZ,kW];rfl
 by_cases p:k=8
 ·subst p;simp[vZ,kW];rfl
 by_cases q:k=9
 ·subst q;simp[vZ,kW];rfl
 by_cases c:k=10
 ·subst c;simp[vZ,kW];rfl
 have:knd k=false:=by
  unfold knd;rw[decide_eq_false_iff_not];omega
 simp[vZ,kW,d,e,f,g,h,j,n,p,q,c,this]
theorem zuI:∀(n:Nat) (t:T) (S:AS),sizeOf t<n->t.fits->call 346 [.agg t.cells] S=some (.sc (.bool t.rshp),S)
 |0,_,_,h,_=>by omega
 |n+1,t,S,B,hfit=>by
  obtain⟨hl,Y⟩:=T.fits_kids hfit;rw[zi zxs rfl (by simp) rfl];have ih:∀u∈t.kids,∀S,call 346 [.agg u.cells] S=some (.sc (.bool u.rshp),S):=fun u G S=>zuI n u S (by have:=T.kid_lt G;omega) (Y u G);rw[t.rshp_def,ztI];simp only[zhV];by_cases j:knd t.kind=true
  ·have q:¬kdn t.kind= -2:=by unfold kdn;split<;>(try split)<;>(try split)<;>omega
   have Z:(nmd t.kind:Bool)=(decide (t.kind=1)||(decide (t.kind=2)||decide (t.kind=7))):=by
    unfold nmd;by_cases a:t.kind=1<;>by_cases b:t.kind=2<;>by_cases c:t.kind=7<;>simp[a,b,c]
   have key:∀(e:Nat->AV) (rg:Nat->Option (List AV)) (S':AS) (J:List Kn),e 1=.reg 1 0->rg 1=some t.cells->e 5=.i 0->
    (∀e rg S',fin [.tmp 2] (unw AA (some (.exit 0,st 58 e rg S')) J)=some (.sc (.bool true),S'))->(∀e rg S',e 2=.sc (.bool false)->fin [.tmp 2] (unw AA (some (.ret,st 58 e rg S')) J)=some (.sc (.bool false),S'))->
    zW S (fin [.tmp 2] (zH AA (.loop [2,6,43,44,45,46,47,48,49,50,51,52,53,54,55,56,57] [] ze4) (st 58 e rg S') J))=some (.sc (.bool (t.kids.all T.rshp)),S):=by
    intro e rg S' ks g1 g2 g5 N O;refine y8 (α:=Nat) (R:=fun _ r=>zW S r=some (.sc (.bool (t.kids.all T.rshp)),S)) (fun i e rg S'=>i<=t.kids.length/\e 1=.reg 1 0/\rg 1=some t.cells/\e 5=.sc (.int .i64 (i:Nat))/\∀u∈t.kids.take i,u.rshp=true) (fun i=>t.kids.length-i) ?_ 0 _ _ _ ⟨by omega,g1,g2,g5,fun u G=>by simp at G⟩;intro J I i e rg S' ⟨hi,K,L,Q,G⟩ U;by_cases V:i<t.kids.length
    ·obtain⟨k,F⟩:=yV V;have w2:IntKind.i64.wrap ((i:Int)+1)=((i+1:Nat):Int):=w64 (by omega);have E:=ih k (xaj F);cases M:k.rshp with
     |false=>
      rw[M]at E;have:t.kids.all T.rshp=false:=by
       rw[List.all_eq_false];exact⟨k,xaj F,by simp[M]⟩
      simp[-zg,ze4,K,L,Q,V,zJ F,E];rw[I,this];simp[-zg];rw[O _ _ _ (by simp)];simp
     |true=>
      rw[M]at E;simp[-zg,ze4,K,L,Q,V,zJ F,E,w2];refine U (i+1) _ _ _ (by omega) (fun _ h=>h) ?_;refine⟨by omega,by simp[K],by simp[L],by simp,fun u C=>?_⟩;rw[xav,F]at C;rcases xaE.1 C with C|C
      ·exact G u C
      ·simp at C;rw[C];exact M
    ·have W:i=t.kids.length:=by omega
     subst W;rw[xax]at G;have:t.kids.all T.rshp=true:=List.all_eq_true.2 G;simp[-zg,ze4,K,L,Q];rw[I,this];simp[-zg];rw[N];simp
   have X:t.kind=1\/t.kind=2\/t.kind=7\/(¬t.kind=1/\¬t.kind=2/\¬t.kind=7):=by omega
   rcases X with c|c|c|⟨c1,c2,c7⟩
   ·skip
    have w:(t.kind=1)=True:=eq_true c;have z:(t.kind=2)=False:=eq_false (by omega);have A:(t.kind=7)=False:=eq_false (by omega);have B:nmd t.kind=true:=by unfold nmd;simp[w,z,A]
    by_cases p:kdn t.kind<0
    ·have g:¬0<=kdn t.kind:=by omega
     by_cases d:t.name=⟨#[]⟩
     ·have f:t.one=false:=by unfold T.one;simp[j,B,d,p,g]
      simp[jB,j,q,w,z,A,p,g,d,f]
     ·have f:t.one=true:=by unfold T.one;simp[j,B,d,p,g]
      simp[-zg,jB,j,q,w,z,A,p,g,d,f];exact key _ _ _ _ (by simp) (by simp) (by simp) (fun e rg S'=>by simp) (fun e rg S' D=>by simp[D])
    ·have g:0<=kdn t.kind:=by omega
     by_cases v:(t.kids.length:Int)=kdn t.kind
     ·skip
      by_cases d:t.name=⟨#[]⟩
      ·have f:t.one=false:=by unfold T.one;simp[j,B,d,p,g,v]
       simp[jB,j,q,w,z,A,p,g,v,d,f]
      ·have f:t.one=true:=by unfold T.one;simp[j,B,d,p,g,v]
       simp[-zg,jB,j,q,w,z,A,p,g,v,d,f];exact key _ _ _ _ (by simp) (by simp) (by simp) (fun e rg S'=>by simp) (fun e rg S' D=>by simp[D])
     ·skip
      by_cases d:t.name=⟨#[]⟩
      ·have f:t.one=false:=by unfold T.one;simp[j,B,d,p,g,v]
       simp[jB,j,q,w,z,A,p,g,v,d,f]
      ·have f:t.one=false:=by unfold T.one;simp[j,B,d,p,g,v]
       simp[jB,j,q,w,z,A,p,g,v,d,f]
   ·skip
    have w:(t.kind=1)=False:=eq_false (by omega);have z:(t.kind=2)=True:=eq_true c;have A:(t.kind=7)=False:=eq_false (by omega);have B:nmd t.kind=true:=by unfold nmd;simp[w,z,A]
    by_cases p:kdn t.kind<0
    ·have g:¬0<=kdn t.kind:=by omega
     by_cases d:t.name=⟨#[]⟩
     ·have f:t.one=false:=by unfold T.one;simp[j,B,d,p,g]
      simp[jB,j,q,w,z,A,p,g,d,f]
     ·have f:t.one=true:=by unfold T.one;simp[j,B,d,p,g]
      simp[-zg,jB,j,q,w,z,A,p,g,d,f];exact key _ _ _ _ (by simp) (by simp) (by simp) (fun e rg S'=>by simp) (fun e rg S' D=>by simp[D])
    ·have g:0<=kdn t.kind:=by omega
     by_cases v:(t.kids.length:Int)=kdn t.kind
     ·skip
      by_cases d:t.name=⟨#[]⟩
      ·have f:t.one=false:=by unfold T.one;simp[j,B,d,p,g,v]
       simp[jB,j,q,w,z,A,p,g,v,d,f]
      ·have f:t.one=true:=by unfold T.one;simp[j,B,d,p,g,v]
       simp[-zg,jB,j,q,w,z,A,p,g,v,d,f];exact key _ _ _ _ (by simp) (by simp) (by simp) (fun e rg S'=>by simp) (fun e rg S' D=>by simp[D])
     ·skip
      by_cases d:t.name=⟨#[]⟩
      ·have f:t.one=false:=by unfold T.one;simp[j,B,d,p,g,v]
       simp[jB,j,q,w,z,A,p,g,v,d,f]
      ·have f:t.one=false:=by unfold T.one;simp[j,B,d,p,g,v]
       simp[jB,j,q,w,z,A,p,g,v,d,f]
   ·skip
    have w:(t.kind=1)=False:=eq_false (by omega);have z:(t.kind=2)=False:=eq_false (by omega);have A:(t.kind=7)=True:=eq_true c;have B:nmd t.kind=true:=by unfold nmd;simp[w,z,A]
    by_cases p:kdn t.kind<0
    ·have g:¬0<=kdn t.kind:=by omega
     by_cases d:t.name=⟨#[]⟩
     ·have f:t.one=false:=by unfold T.one;simp[j,B,d,p,g]
      simp[jB,j,q,w,z,A,p,g,d,f]
     ·have f:t.one=true:=by unfold T.one;simp[j,B,d,p,g]
      simp[-zg,jB,j,q,w,z,A,p,g,d,f];exact key _ _ _ _ (by simp) (by simp) (by simp) (fun e rg S'=>by simp) (fun e rg S' D=>by simp[D])
    ·have g:0<=kdn t.kind:=by omega
     by_cases v:(t.kids.length:Int)=kdn t.kind
     ·skip
      by_cases d:t.name=⟨#[]⟩
      ·have f:t.one=false:=by unfold T.one;simp[j,B,d,p,g,v]
       simp[jB,j,q,w,z,A,p,g,v,d,f]
      ·have f:t.one=true:=by unfold T.one;simp[j,B,d,p,g,v]
       simp[-zg,jB,j,q,w,z,A,p,g,v,d,f];exact key _ _ _ _ (by simp) (by simp) (by simp) (fun e rg S'=>by simp) (fun e rg S' D=>by simp[D])
     ·skip
      by_cases d:t.name=⟨#[]⟩
      ·have f:t.one=false:=by unfold T.one;simp[j,B,d,p,g,v]
       simp[jB,j,q,w,z,A,p,g,v,d,f]
      ·have f:t.one=false:=by unfold T.one;simp[j,B,d,p,g,v]
       simp[jB,j,q,w,z,A,p,g,v,d,f]
   ·skip
    have w:(t.kind=1)=False:=eq_false c1;have z:(t.kind=2)=False:=eq_false c2;have A:(t.kind=7)=False:=eq_false c7;have B:nmd t.kind=false:=by unfold nmd;simp[w,z,A]
    by_cases p:kdn t.kind<0
    ·have g:¬0<=kdn t.kind:=by omega
     by_cases d:t.name=⟨#[]⟩
     ·have f:t.one=true:=by unfold T.one;simp[j,B,d,p,g]
      simp[-zg,jB,j,q,w,z,A,p,g,d,f];exact key _ _ _ _ (by simp) (by simp) (by simp) (fun e rg S'=>by simp) (fun e rg S' D=>by simp[D])
     ·have f:t.one=false:=by unfold T.one;simp[j,B,d,p,g]
      simp[jB,j,q,w,z,A,p,g,d,f]
    ·have g:0<=kdn t.kind:=by omega
     by_cases v:(t.kids.length:Int)=kdn t.kind
     ·skip
      by_cases d:t.name=⟨#[]⟩
      ·have f:t.one=true:=by unfold T.one;simp[j,B,d,p,g,v]
       simp[-zg,jB,j,q,w,z,A,p,g,v,d,f];exact key _ _ _ _ (by simp) (by simp) (by simp) (fun e rg S'=>by simp) (fun e rg S' D=>by simp[D])
      ·have f:t.one=false:=by unfold T.one;simp[j,B,d,p,g,v]
       simp[jB,j,q,w,z,A,p,g,v,d,f]
     ·skip
      by_cases d:t.name=⟨#[]⟩
      ·have f:t.one=false:=by unfold T.one;simp[j,B,d,p,g,v]
       simp[jB,j,q,w,z,A,p,g,v,d,f]
      ·have f:t.one=false:=by unfold T.one;simp[j,B,d,p,g,v]
       simp[jB,j,q,w,z,A,p,g,v,d,f]
  ·have w:(t.kind=1)=False:=eq_false (by rintro c;rw[c]at j;exact j rfl);have z:(t.kind=2)=False:=eq_false (by rintro c;rw[c]at j;exact j rfl);have A:(t.kind=7)=False:=eq_false (by rintro c;rw[c]at j;exact j rfl);have f:t.one=false:=by unfold T.one;simp[j]
   simp[jB,j,w,z,A,f]
@[simp] theorem zJf{t:T}(h:t.fits):call 346 [.agg t.cells] S=some (.sc (.bool t.rshp),S):=zuI _ t S (xay _) h
end
def zbC(n:ByteArray):ByteArray:=if n=⟨#[]⟩then⟨#[]⟩else yj n.size++⟨#[58]⟩++n
def hdT(k:Int)(n:ByteArray):ByteArray:=ltr k++zbC n
mutual
def T.text:T->ByteArray
 | .mk k n l=>if l.isEmpty&&!(decide (k=3))then hdT k n else hdT k n++⟨#[40]⟩++y6 l++⟨#[41]⟩
def y6:List T->ByteArray
 |[]=>⟨#[]⟩
 |t::l=>t.text++kx l
def kx:List T->ByteArray
 |[]=>⟨#[]⟩
 |t::l=>⟨#[44]⟩++t.text++kx l
end
theorem T.text_def:∀t:T,t.text=if t.kids.isEmpty&&!(decide (t.kind=3))then hdT t.kind t.name else hdT t.kind t.name++⟨#[40]⟩++y6 t.kids++⟨#[41]⟩
 | .mk _ _ _=>by rw[T.text];rfl
theorem zcV{x:ByteArray}:x++⟨#[]⟩=x:=by apply kS;simp[ByteArray.data_append]
theorem zCD{x:ByteArray}:(⟨#[]⟩:ByteArray)++x=x:=by apply kS;simp[ByteArray.data_append]
theorem zor:∀{l m:List T},kx (l++m)=kx l++kx m
 |[],m=>by simp only[kx,List.nil_append,zCD]
 |t::l,m=>by simp only[kx,List.cons_append,zor,zcU]
theorem zBn{l:List T}{k:T}:y6 (l++[k])=if l.isEmpty then k.text else y6 l++⟨#[44]⟩++k.text:=by
 cases l with
 |nil=>simp only[List.nil_append,y6,kx,zcV];rfl
 |cons t l=>simp only[List.cons_append,y6,zor,kx,zcV,zcU,List.isEmpty_cons];rfl
theorem zBo{l:List T}{i:Nat}{k:T}(h:l[i]?=some k):y6 (l.take (i+1))=if i=0 then k.text else y6 (l.take i)++⟨#[44]⟩++k.text:=by
 rw[xav,h,Option.toList_some,zBn];have d:=(xal.1 h).1;by_cases c:i=0
 ·subst c;simp
 ·rw[if_neg c,if_neg];rw[List.isEmpty_iff,List.take_eq_nil_iff];rintro(h|h)
  ·exact c h
  ·subst h;simp at d
theorem zrZ:∀{l:List T},zaP (l.map T.text) ⟨#[44]⟩=y6 l
 |[]=>by unfold zaP;rfl
 |t::l=>by
  have c:∀l:List T,(⟨(Lib.joinTail [44] (l.map (fun t=>t.text.data.toList))).toArray⟩:ByteArray)=kx l:=by
   intro l
   induction l with
   |nil=>rfl
   |cons t l ih=>
    rw[kx,<-ih];apply kS;simp[Lib.joinTail,ByteArray.data_append]
  unfold zaP;simp only[xao,List.map_map];rw[Lib.join_cons,y6,<-c l];apply kS;simp only[ByteArray.data_append];simp;rfl
theorem zdK{k:Int}:(ltr k).size=1:=rfl
theorem zac{n:Nat}(h:n<=9223372036854775807):(yj n).size<=20:=Nat.le_succ_of_le (zcy 18 n (by omega))
theorem zCz{n:ByteArray}(h:n.size<=9223372036854775807):(zbC n).size<=21+n.size:=by
 unfold zbC;split
 ·exact Nat.zero_le _
 ·have:=zac h;rw[xai,xai];have c:(⟨#[58]⟩:ByteArray).size=1:=rfl;omega
theorem zlO{k:Int}{n:ByteArray}(h:n.size<=9223372036854775807):(hdT k n).size<=22+n.size:=by
 unfold hdT;have:=zCz h;rw[xai,zdK];omega
mutual
theorem T.text_size:∀{t:T},t.bulk<=9223372036854775807->t.text.size+1<=8*t.bulk
 | .mk k n l,h=>by
   rw[T.bulk]at h ⊢;have c:=@zlO k n (by omega);have d:=@zi7 l (by omega);have e:(⟨#[40]⟩:ByteArray).size=1:=rfl;have f:(⟨#[41]⟩:ByteArray).size=1:=rfl;rw[T.text];split
   ·omega
   ·simp only[xai];omega
theorem zi7:∀{l:List T},yF l<=9223372036854775807->(y6 l).size<=8*yF l
 |[],_=>Nat.zero_le _
 |t::l,h=>by
  rw[yF]at h ⊢;have c:=@T.text_size t (by omega);have d:=@zos l (by omega);rw[y6,xai];omega
theorem zos:∀{l:List T},yF l<=9223372036854775807->(kx l).size<=8*yF l
 |[],_=>Nat.zero_le _
 |t::l,h=>by
  rw[yF]at h ⊢;have c:=@T.text_size t (by omega);have d:=@zos l (by omega);have e:(⟨#[44]⟩:ByteArray).size=1:=rfl;rw[kx,xai,xai];omega
end
theorem T.bulk_kid{t u:T}(h:u∈t.kids):u.bulk+4<=t.bulk:=by
 obtain⟨k,n,l⟩:=t;have:=zko (l:=l) u h;rw[T.bulk];omega
theorem T.bulk_name{t:T}:t.name.size+4<=t.bulk:=by
 obtain⟨k,n,l⟩:=t;rw[T.bulk];show n.size+4<=_;omega
theorem T.bulk_len{t:T}:t.kids.length+4<=t.bulk:=by
 obtain⟨k,n,l⟩:=t;have:=@zkn l;rw[T.bulk];show l.length+4<=_;omega
theorem T.bulk_kids{t:T}:yF t.kids+4<=t.bulk:=by
 obtain⟨k,n,l⟩:=t;rw[T.bulk];show yF l+4<=_;omega
theorem T.fits_bulk{t:T}(h:t.bulk<=1099511627776):t.fits:=T.fits_bd (r:=48*1099511627776) (by omega) (T.bd_bulk h)
theorem zof:∀{l m:List T},yF (l++m)=yF l+yF m
 |[],m=>by simp[yF]
 |t::l,m=>by rw[List.cons_append,yF,yF,zof];omega
theorem zzk{l:List T}{i:Nat}:yF (l.take i)<=yF l:=by
 conv=>rhs;rw[<-List.take_append_drop i l,zof]
 omega
section
variable{S:AS}
theorem zlS{m:Nat}:zE (m:Int)=yj m:=by
 unfold zE Lib.itoa yj;rw[if_neg (by omega)];rfl
theorem ztG:∀{c:List ByteArray},zbF (zv c)=some c
 |[]=>rfl
 |w::c=>by
  have:=@ztG c;unfold zv at this ⊢;simp only[xao,zbF,this,xam]
theorem zzs{v:AV}{sep:ByteArray}{c:List ByteArray}(e:v.isReg=false)(h:zD 1 S v=some (zv c))(f:c.length<=140737488355328)(g:(zaP c sep).size<=140737488355328):
 call 324 [v,.sc (.string sep)] S=some (.sc (.string (zaP c sep)),S):=by
 rw[zbh zxd (by simp[e])];have d:(Lib.join (c.map (·.data.toList)) sep.data.toList).length<=140737488355328:=by
  have:(zaP c sep).size=(Lib.join (c.map (·.data.toList)) sep.data.toList).length:=by
   unfold zaP;show(List.toArray _).size=_;rw[List.size_toArray]
  omega
 simp only[zby,h,xae,ztG,f,d,and_self,if_true]
theorem Own.rows0{S0 S':AS}{v:AV}{rs:List (List AV)}(h:Own S0 S' 1 v rs):zD 1 S' v=some rs:=by
 rcases h.h with⟨z,rfl,c⟩|⟨id,rfl,d,e,f⟩
 ·rcases c with c|rfl
  ·subst c;simp[zD]
  ·simp[zD]
 ·simp only[zD,if_true];exact wk d (Nat.zero_le _)
theorem zjc{t:T}{h:ByteArray}{S S0:AS}(V:t.bulk<=1099511627776)(W:h.size<=1099511627798)
 (ih:∀u∈t.kids,∀S,call 227 [.agg u.cells] S=some (.sc (.string u.text),S)) (A:S0.ro<=S0.n) (e:Nat->AV) (rg:Nat->Option (List AV))
 (B:NQ [6,39,40,41,42,43,44,45,46,47] [6] e) (p:e 3=.sc (.string h)) (O:e 4=.lst 0 true []) (g:e 36=zh t.kids) (c:e 37=.sc (.int .i64 (t.kids.length:Nat))) (j:e 38=.i 0) (ks:List Kn)
 (C:∀e rg S' v,e 3=.sc (.string h)->e 4=v->v.isReg=false->zD 1 S' v=some (zv (t.kids.map T.text))->fin [.tmp 2] (unw AA (some (.exit 0,st 54 e rg S')) ks)=some (.sc (.string (h++⟨#[40]⟩++y6 t.kids++⟨#[41]⟩)),S')):
 zW S (fin [.tmp 2] (zH AA (.loop [6,39,40,41,42,43,44,45,46,47] [6] zhg) (st 54 e rg S0) ks))=some (.sc (.string (h++⟨#[40]⟩++y6 t.kids++⟨#[41]⟩)),S):=by
 have K:=t.bulk_len;refine zdI (α:=Nat) (R:=fun _ r=>zW S r=some (.sc (.string (h++⟨#[40]⟩++y6 t.kids++⟨#[41]⟩)),S)) (fun i e rg S'=>i<=t.kids.length/\NQ [6,39,40,41,42,43,44,45,46,47] [6] e/\e 3=.sc (.string h)/\e 36=zh t.kids/\e 37=.sc (.int .i64 (t.kids.length:Nat))/\e 38=.sc (.int .i64 (i:Nat))/\Own S0 S' 1 (e 4) (zv ((t.kids.take i).map T.text))) (fun i=>t.kids.length-i) (fun _ _ _ _ h=>h.2.1) ?_ 0 _ _ _ ⟨by omega,B,p,g,c,j,by rw[O];exact zcB A⟩;intro X D i e rg S' ⟨Y,B,p,g,c,j,q⟩ E;by_cases L:i<t.kids.length
 ·obtain⟨k,F⟩:=yV L;have Q:IntKind.i64.wrap ((i:Int)+1)=((i+1:Nat):Int):=w64 (by omega);have G:(t.kids.take i).length=i:=by rw[List.length_take];omega
  obtain⟨Z,U,M,w,N,q2,q3⟩:=q.push (n:=i) (bytes:=16) (r:=[.sc (.string k.text)]) (f:=true) (d:=some 46) (rg:=upd (upd (zbu [6] rg) 6 zT) 6 k.cells) (by rw[zag,xaH,G]) (by omega);have I:=q.reg;have z:=ih k (xaj F);rw[<-zJz]at w;simp only[zT]at M;simp[-zg,zhg,p,g,c,j,L,zJ F,z,I,zj];rw[M];simp[-zg,N,Q,p,g,c,j];refine E (i+1) _ _ _ (by omega) (fun _ h=>h) ?_;refine⟨by omega,?_,by simp[p],by simp[g],by simp[c],by simp,?_⟩
  ·repeat (first|exact zcM B|refine vC ?_ (by simp[N]))
  ·rw[xav,F];simpa using w
 ·have J:i=t.kids.length:=by omega
  subst J;rw[xax]at q;simp[-zg,zhg,c,j];rw[D];simp[-zg];rw[C _ _ _ (e 4) (by simp[p]) (by simp) q.reg q.rows0];simp
end
section
variable{S:AS}
theorem zuX:∀(n:Nat) (t:T) (S:AS),sizeOf t<n->t.bulk<=1099511627776->t.rshp=true->call 227 [.agg t.cells] S=some (.sc (.string t.text),S)
 |0,_,_,h,_,_=>by omega
 |n+1,t,S,hn,hb,hr=>by
  have ih:∀u∈t.kids,∀S,call 227 [.agg u.cells] S=some (.sc (.string u.text),S):=fun u G S=>zuX n u S (by have:=T.kid_lt G;omega) (by have:=T.bulk_kid G;omega) (by
   rw[t.rshp_def,xab]at hr;exact zd9.1 hr.2 u G)
  rw[zi zwh rfl (by simp) rfl];rw[t.rshp_def,xab]at hr;obtain⟨O,h2,h3⟩:=T.one_iff.1 hr.1;have N:=t.bulk_len;have I:=t.bulk_name;have Q:=T.text_size (t:=t) (by omega);have R:=zi7 (l:=t.kids) (by have:=t.bulk_kids;omega);have U:=t.bulk_kids;have E:=@zlO t.kind t.name (by omega);have V:(⟨#[40]⟩:ByteArray).size=1:=rfl;have W:(⟨#[41]⟩:ByteArray).size=1:=rfl;have X:(⟨#[58]⟩:ByteArray).size=1:=rfl;have Y:(zaP (t.kids.map T.text) ⟨#[44]⟩).size<=140737488355328:=by rw[zrZ];omega
  have f:∀(h:ByteArray),h.size<=1099511627798->∀e rg S' v,e 3=.sc (.string h)->e 4=v->v.isReg=false->zD 1 S' v=some (zv (t.kids.map T.text))->fin [.tmp 2] (zH AA (.seq (.ops [
   ⟨some 48,.pur .mov,[.t 3],none⟩,
   ⟨some 49,.pur (.bin .add),[.t 48,.k (.s ⟨#[40]⟩)],none⟩,
   ⟨some 50,.pur .mov,[.t 4],none⟩,
   ⟨some 51,.call 324,[.t 50,.k (.s ⟨#[44]⟩)],none⟩,
   ⟨some 52,.pur (.bin .add),[.t 49,.t 51],none⟩,
   ⟨some 53,.pur (.bin .add),[.t 52,.k (.s ⟨#[41]⟩)],none⟩,
   ⟨some 2,.pur .mov,[.t 53],none⟩]) .ret) (st 54 e rg S') [])=some (.sc (.string (h++⟨#[40]⟩++y6 t.kids++⟨#[41]⟩)),S'):=by
   intro h hh e rg S' v B q p c;have j:=zzs (S:=S') (sep:=⟨#[44]⟩) p c (by rw[xaH];omega) Y;rw[zrZ]at j;have Z:pev (.bin .add) [.sc (.string h),.s ⟨#[40]⟩]=some (.sc (.string (h++⟨#[40]⟩))):=yz (by omega);have p2:=yz (x:=h++⟨#[40]⟩) (y:=y6 t.kids) (by rw[xai];omega);have p3:pev (.bin .add) [.sc (.string (h++⟨#[40]⟩++y6 t.kids)),.s ⟨#[41]⟩]=some (.sc (.string (h++⟨#[40]⟩++y6 t.kids++⟨#[41]⟩))):=yz (by rw[xai,xai];omega);simp[B,q,p,Z,p2,p3,j]
  have F:(t.kids.isEmpty&&!(decide (t.kind=3)))=(decide ((t.kids.length:Int)=0)&&!(decide (t.kind=3))):=by
   congr 1;cases t.kids<;>simp<;>omega
  rw[T.text_def,F];have C:pev (.bin .add) [.sc (.string (yj t.name.size)),.s ⟨#[58]⟩]=some (.sc (.string (yj t.name.size++⟨#[58]⟩))):=yz (by have:=zac (n:=t.name.size) (by omega);omega);have J:=yz (x:=yj t.name.size++⟨#[58]⟩) (y:=t.name) (by have:=zac (n:=t.name.size) (by omega);rw[xai];omega);have K:=yz (x:=ltr t.kind) (y:=yj t.name.size++⟨#[58]⟩++t.name) (by have:=zac (n:=t.name.size) (by omega);rw[xai,xai,zdK];omega);have w:∀S,call 193 [.sc (.int .i64 (t.name.size:Int))] S=some (.sc (.string (yj t.name.size)),S):=fun S=>by rw[zbY (by unfold inI;omega),zlS]
  have D:=zfu O;have aa:(ltr t.kind).size=1:=rfl;by_cases g:t.name=⟨#[]⟩
  ·have M:hdT t.kind t.name=ltr t.kind:=by unfold hdT zbC;rw[if_pos g,zcV]
   rw[M]at E ⊢;generalize ltr t.kind=L at *;by_cases d:(t.kids.length:Int)=0
   ·by_cases z:t.kind=3
    ·simp[-zg,zaC,zca,wZ,D,g,d,eq_true z];refine zjc (h:=L) hb (by omega) ih (xad _) _ _ ?_ (by simp) (by simp) (by simp) (by simp[d]) (by simp) _ ?_
     ·repeat (first|exact zan rfl|refine vC ?_ (by simp))
     ·intro e rg S' v B q p c;simpa[q,p]using f _ (by omega) e rg S' v B q p c
    ·simp[zaC,zca,wZ,D,g,d,z]
   ·have A:¬t.kids=[]:=fun h=>d (by rw[h];rfl);simp[-zg,zaC,zca,wZ,D,g,d,A];refine zjc (h:=L) hb (by omega) ih (xad _) _ _ ?_ (by simp) (by simp) (by simp) (by simp[d]) (by simp) _ ?_
    ·repeat (first|exact zan rfl|refine vC ?_ (by simp))
    ·intro e rg S' v B q p c;simpa[q,p]using f _ (by omega) e rg S' v B q p c
  ·have M:hdT t.kind t.name=ltr t.kind++(yj t.name.size++⟨#[58]⟩++t.name):=by unfold hdT zbC;rw[if_neg g]
   rw[M]at E ⊢;generalize ltr t.kind=L at *;generalize hH:L++(yj t.name.size++⟨#[58]⟩++t.name)=H at *;by_cases d:(t.kids.length:Int)=0
   ·by_cases z:t.kind=3
    ·simp[-zg,zaC,zca,wZ,D,g,d,eq_true z,w,C,J,K];refine zjc (h:=H) hb (by omega) ih (xad _) _ _ ?_ (by simp) (by simp) (by simp) (by simp[d]) (by simp) _ ?_
     ·repeat (first|exact zan rfl|refine vC ?_ (by simp))
     ·intro e rg S' v B q p c;simpa[q,p]using f _ (by omega) e rg S' v B q p c
    ·simp[zaC,zca,wZ,D,g,d,z,w,C,J,K]
   ·have A:¬t.kids=[]:=fun h=>d (by rw[h];rfl);simp[-zg,zaC,zca,wZ,D,g,d,A,w,C,J,K];refine zjc (h:=H) hb (by omega) ih (xad _) _ _ ?_ (by simp) (by simp) (by simp) (by simp[d]) (by simp) _ ?_
    ·repeat (first|exact zan rfl|refine vC ?_ (by simp))
    ·intro e rg S' v B q p c;simpa[q,p]using f _ (by omega) e rg S' v B q p c
end
abbrev T.bb(t:T):Prop:=t.bd 140737488355328
theorem T.bb_kids:∀{t:T},t.bb->∀u∈t.kids,u.bb
 | .mk _ _ _,h,u,hu=>zkh.1 h.2.2 u hu
theorem T.bb_len:∀{t:T},t.bb->t.kids.length*48<=140737488355328
 | .mk _ _ _,h=>h.2.1
theorem T.bb_name:∀{t:T},t.bb->t.name.size<=140737488355328
 | .mk _ _ _,h=>h.1
theorem T.bb_fits{t:T}(h:t.bb):t.fits:=T.fits_bd (by omega) h
theorem znm:tZ.bb:=⟨by show 0<=_;omega,by show 0*48<=_;omega,trivial⟩
theorem zcI{k t:T}{n:Int}(h:t.bb):(jz k n t).1.bb:=by
 unfold jz;split
 ·unfold vB;split
  ·rename_i a b c;split
   ·exact T.bb_kids h b (by rw[c];simp)
   ·exact znm
  ·exact znm
 ·exact znm
section
variable{S:AS}
theorem zIz{a u body p:T}{now:Int}(hp:p.bb)(N:now.natAbs<=1000000000000000):call 149 [.agg a.cells,.agg u.cells,.agg body.cells,.agg p.cells,.sc (.int .i64 now)] S=some (.sc (.int .i64 (wU a u body p now)),S):=by
 rw[zi zvK rfl (by simp) rfl];have f:=fun S=>@s78 S zr 1 p (by have:=T.bb_len hp;omega);simp only[zr]at f;have j:=fun S=>@zIQ S a u;unfold wU;cases e:zX zr 1 p with
 |none=>
  simp only[zr]at e;simp[wz,zay,f,e,zF]
 |some l=>
  obtain⟨O,Q⟩:=jO (n:=1) e
  match l,O with
  |[x],_=>
   simp only[zr]at e;have J:=T.bb_kids hp x (Q x (by simp));have g:=fun S=>@zmR S (tCk a u) x 54 i54 (T.bb_fits J);have v:=@zcI (tCk a u) x 54 J;simp only;generalize jz (tCk a u) 54 x=r at g v ⊢;obtain⟨y,er⟩:=r;simp only at v;have k:pev (.iaddr 3) [zh [x],.i 0]=some (.iptr x.cells):=zJ (i:=0) rfl;unfold zeA;simp only;by_cases K:er=4
   ·subst K;simp[wz,zay,f,j,g,e,zF,zt,k]
   ·by_cases L:er=0
    ·subst L;have q:=fun S=>@s78 S ko 2 y (by have:=T.bb_len v;omega);simp only[ko]at q;cases h:zX ko 2 y with
     |none=>
      simp only[ko]at h;simp[wz,zay,f,j,g,q,e,h,zF,zt,k]
     |some m=>
      obtain⟨D,w⟩:=jO (n:=2) h
      match m,D with
      |[c,b],_=>
       simp only[ko]at h;have R:=T.bb_kids v c (w c (by simp));have U:=T.bb_kids v b (w b (by simp));have A:=fun S=>@s87 S c (by have:=T.bb_name R;omega);have B:pev (.iaddr 3) [zh [c,b],.i 0]=some (.iptr c.cells):=zJ (i:=0) rfl;have E:pev (.iaddr 3) [zh [c,b],.i 1]=some (.iptr b.cells):=zJ (i:=1) rfl;have F:=T.bb_fits U;simp only[zex];cases d:ke c with
       |none=>simp[wz,zay,f,j,g,q,A,e,h,zF,zt,k,B,d,yM]
       |some n=>
        have C:=fun S=>@zIR S n now (zsJ d) N;unfold zey;cases G:b.same (yC body)with
        |false=>simp[wz,zay,f,j,g,q,A,e,h,zF,zt,k,B,E,d,yM,F,G]
        |true=>
         by_cases M:(n-now).natAbs > 5
         ·rw[if_pos M]at C;simp[wz,zay,f,j,g,q,A,C,e,h,zF,zt,k,B,E,d,yM,F,G];omega
         ·rw[if_neg M]at C;have I:¬(5:Int)<((n-now).natAbs:Int):=by omega
          have z:¬5<(n-now).natAbs:=by omega
          simp[wz,zay,f,j,g,q,A,C,e,h,zF,zt,k,B,E,d,yM,F,G,I,z]
    ·simp[wz,zay,f,j,g,e,zF,zt,k,K,L]
theorem zIB{a u body p:T}{now:Int}(hp:p.bb)(V:now.natAbs<=1000000000000000):call 151 [.agg a.cells,.agg u.cells,.agg body.cells,.agg p.cells,.sc (.int .i64 now)] S=some (.sc (.int .i64 (wU a u body p now)),S):=by
 rw[zi zvM rfl (by simp) rfl];have h:=fun S=>@s79 S zr 1 p (by omega);simp only[zr]at h;have q:=fun S=>@zud S a u;unfold wU;cases f:zX zr 1 p with
 |none=>
  simp only[zr]at f;simp[vX,kV,h,f,zF]
 |some l=>
  obtain⟨z,Q⟩:=jO (n:=1) f
  match l,z with
  |[x],_=>
   simp only[zr]at f;have K:=T.bb_kids hp x (Q x (by simp));have j:=fun S=>@zmS S (tCk a u) x 54 i54 (by omega) (T.bb_fits K);have I:=@zcI (tCk a u) x 54 K;simp only;generalize jz (tCk a u) 54 x=r at j I ⊢;obtain⟨y,er⟩:=r;simp only at I;have v:pev (.iaddr 3) [zh [x],.i 0]=some (.iptr x.cells):=zJ (i:=0) rfl;unfold zeA;simp only;by_cases L:er=4
   ·subst L;simp[vX,kV,h,q,j,f,zF,zt,v]
   ·by_cases M:er=0
    ·subst M;have w:=fun S=>@s79 S ko 2 y (by omega);simp only[ko]at w;cases k:zX ko 2 y with
     |none=>
      simp only[ko]at k;simp[vX,kV,h,q,j,w,f,k,zF,zt,v]
     |some m=>
      obtain⟨J,F⟩:=jO (n:=2) k
      match m,J with
      |[c,b],_=>
       simp only[ko]at k;have W:=T.bb_kids I c (F c (by simp));have R:=T.bb_kids I b (F b (by simp));have A:=fun S=>@s88 S c;have B:pev (.iaddr 3) [zh [c,b],.i 0]=some (.iptr c.cells):=zJ (i:=0) rfl;have C:pev (.iaddr 3) [zh [c,b],.i 1]=some (.iptr b.cells):=zJ (i:=1) rfl;have D:=T.bb_fits R;simp only[zex];cases d:ke c with
       |none=>simp[vX,kV,h,q,j,w,A,f,k,zF,zt,v,B,d,yM]
       |some n=>
        have U:=zsJ d;have N:IntKind.i64.wrap (n-now)=n-now:=w64 (by omega);have O:IntKind.i64.wrap (now-n)=now-n:=w64 (by omega);unfold zey;cases E:b.same (yC body)with
        |false=>simp[vX,kV,h,q,j,w,A,f,k,zF,zt,v,B,C,d,yM,D,E]
        |true=>
         by_cases z:n<now
         ·have g:¬now<n:=by omega
          by_cases G:5<now-n
          ·have e:(n-now).natAbs > 5:=by omega
           simp[vX,kV,h,q,j,w,A,f,k,zF,zt,v,B,C,d,yM,D,E,O,z,g,G,e]
          ·have e:¬(n-now).natAbs > 5:=by omega
           simp[vX,kV,h,q,j,w,A,f,k,zF,zt,v,B,C,d,yM,D,E,O,z,g,G,e]
         ·by_cases g:now<n
          ·by_cases G:5<n-now
           ·have e:(n-now).natAbs > 5:=by omega
            simp[vX,kV,h,q,j,w,A,f,k,zF,zt,v,B,C,d,yM,D,E,N,z,g,G,e]
           ·have e:¬(n-now).natAbs > 5:=by omega
            simp[vX,kV,h,q,j,w,A,f,k,zF,zt,v,B,C,d,yM,D,E,N,z,g,G,e]
          ·have e:¬(n-now).natAbs > 5:=by omega
           simp[vX,kV,h,q,j,w,A,f,k,zF,zt,v,B,C,d,yM,D,E,z,g,e]
    ·simp[vX,kV,h,q,j,f,zF,zt,v,L,M]
end
def zse:List (List AV):=[[.s ⟨#[100]⟩],[.s ⟨#[97]⟩],[.s ⟨#[112]⟩],[.s ⟨#[101]⟩],[.s ⟨#[109]⟩],[.s ⟨#[104]⟩],[.s ⟨#[107]⟩],[.s ⟨#[117]⟩],[.s ⟨#[115]⟩],[.s ⟨#[120]⟩]]
theorem zBZ{k:Int}(h:knd k=true):pev (.iaddr 1) [.lst 1 true zse,.sc (.int .i64 (IntKind.i64.wrap (k-1)))]=some (.iptr [.sc (.string (ltr k))]):=by
 rcases zlV h with rfl|rfl|rfl|rfl|rfl|rfl|rfl|rfl|rfl|rfl<;>rfl
section
variable{S:AS}
theorem zJs:∀{n:Nat} {S:AS},n<=9223372036854775807->call 420 [.sc (.int .i64 (n:Int))] S=some (.sc (.string (yj n)),S):=by
 intro n
 induction n using Nat.strongRecOn with
 |_ n ih=>
  intro S p;rw[zi zx4 rfl (by simp) rfl];have q:n%10<10:=Nat.mod_lt _ (by omega);have c:∀m:Nat,m<10->pev .bytesStr [AV.lst 1 true [[.sc (.int .u8 (IntKind.u8.wrap (IntKind.i64.wrap (48+(m:Int)))))]]]=some (.sc (.string (jF m))):=fun m v=>by
   rw[zjY v];exact zjp
  by_cases h:n<10
  ·have e:(n:Int)<10:=by omega
   simp[zfc,zlq,e,zj,c n h,zcz h]
  ·have e:¬(n:Int)<10:=by omega
   have d:=fun S=>ih (n/10) (by omega) (S:=S) (by omega);have f:=c (n%10) q;have w:(jF (n%10)).size=1:=rfl;have g:=yz (x:=yj (n/10)) (y:=jF (n%10)) (by have:=zac (n:=n/10) (by omega);omega);rw[<-zdO (by omega)]at g;rw[show((n%10:Nat):Int)=(n:Int)%10 by omega]at f;rw[show((n/10:Nat):Int)=(n:Int)/10 by omega]at d;have j:=@zjq n p;have k:=@zjr n;rw[show((n%10:Nat):Int)=(n:Int)%10 by omega]at k;rw[show((n/10:Nat):Int)=(n:Int)/10 by omega]at j;simp[zfc,zlq,e,zj,j,k,d,f,g]
theorem zsl{t:T}{h:ByteArray}{S S0:AS}(W:t.bulk<=1099511627776)(X:h.size<=1099511627799)
 (ih:∀u∈t.kids,∀S,call 347 [.agg u.cells] S=some (.sc (.string u.text),S)) (e:Nat->AV) (rg:Nat->Option (List AV))
 (d:e 1=.reg 1 0) (j:rg 1=some t.cells) (f:e 4=.sc (.string h)) (n:e 5=.i 0) (ks:List Kn)
 (z:∀e rg S',e 4=.sc (.string (h++y6 t.kids))->fin [.tmp 2] (unw AA (some (.exit 0,st 55 e rg S')) ks)=some (.sc (.string (h++y6 t.kids++⟨#[41]⟩)),S')):
 zW S (fin [.tmp 2] (zH AA (.loop [6,33,34,35,36,37,38,39,40,41,42,43,44,45,46,47,48,49,50,51,52] [] ze5) (st 55 e rg S0) ks))=some (.sc (.string (h++y6 t.kids++⟨#[41]⟩)),S):=by
 have J:=t.bulk_len;have K:=t.bulk_kids;have A:∀i,(y6 (t.kids.take i)).size<=8*1099511627776:=fun i=>by
  have d:=@zzk t.kids i;have Y:=zi7 (l:=t.kids.take i) (by omega);omega
 have L:(⟨#[44]⟩:ByteArray).size=1:=rfl;refine y8 (α:=Nat) (R:=fun _ r=>zW S r=some (.sc (.string (h++y6 t.kids++⟨#[41]⟩)),S)) (fun i e rg S'=>i<=t.kids.length/\e 1=.reg 1 0/\rg 1=some t.cells/\e 4=.sc (.string (h++y6 (t.kids.take i)))/\e 5=.sc (.int .i64 (i:Nat))) (fun i=>t.kids.length-i) ?_ 0 _ _ _ ⟨by omega,d,j,by rw[f];simp only[List.take_zero,y6,zcV],n⟩;intro Z B i e rg S' ⟨hi,d,j,f,n⟩ q;by_cases C:i<t.kids.length
 ·obtain⟨k,v⟩:=yV C;have M:IntKind.i64.wrap ((i:Int)+1)=((i+1:Nat):Int):=w64 (by omega);have g:=ih k (xaj v);have N:=T.bulk_kid (xaj v);have O:=T.text_size (t:=k) (by omega);have Q:=A i;have c:=zBo v;by_cases w:i=0
  ·subst w;rw[if_pos rfl]at c;have p:=yz (x:=h) (y:=k.text) (by omega);simp only[List.take_zero,y6,zcV]at f;have D:pev (.iaddr 3) [zh t.kids,.i 0]=some (.iptr k.cells):=zJ (i:=0) v;have E:IntKind.i64.wrap 1=1:=rfl;simp[-zg,ze5,d,j,f,n,C,D,g,E,p];refine q 1 _ _ _ (by omega) (fun _ h=>h) ?_;exact⟨by omega,by simp[d],by simp[j],by simp only[zn];simp;rw[c],by simp⟩
  ·rw[if_neg w]at c;have F:(0:Int)<i:=by omega
   have G:0<i:=by omega
   have U:pev (.bin .add) [.sc (.string (h++y6 (t.kids.take i))),.s ⟨#[44]⟩]=some (.sc (.string (h++y6 (t.kids.take i)++⟨#[44]⟩))):=yz (by rw[xai];omega);have V:=yz (x:=h++y6 (t.kids.take i)++⟨#[44]⟩) (y:=k.text) (by rw[xai,xai];omega);simp[-zg,ze5,d,j,f,n,C,F,G,zJ v,g,M,U,V];refine q (i+1) _ _ _ (by omega) (fun _ h=>h) ?_;refine⟨by omega,by simp[d],by simp[j],?_,by simp⟩;simp;rw[c];simp only[zcU]
 ·have I:i=t.kids.length:=by omega
  subst I;rw[xax]at f;simp[-zg,ze5,d,j,f,n];rw[B];simp[-zg];rw[z _ _ _ (by simp[f])];simp
theorem zuY:∀(n:Nat) (t:T) (S:AS),sizeOf t<n->t.bulk<=1099511627776->t.rshp=true->call 347 [.agg t.cells] S=some (.sc (.string t.text),S)
 |0,_,_,h,_,_=>by omega
 |n+1,t,S,hn,hb,hr=>by
  have ih:∀u∈t.kids,∀S,call 347 [.agg u.cells] S=some (.sc (.string u.text),S):=fun u E S=>zuY n u S (by have:=T.kid_lt E;omega) (by have:=T.bulk_kid E;omega) (by
   rw[t.rshp_def,xab]at hr;exact zd9.1 hr.2 u E)
  rw[zi zxt rfl (by simp) rfl];rw[t.rshp_def,xab]at hr;obtain⟨I,h2,p⟩:=T.one_iff.1 hr.1;have J:=t.bulk_len;have F:=t.bulk_name;have N:=T.text_size (t:=t) (by omega);have O:=zi7 (l:=t.kids) (by have:=t.bulk_kids;omega);have Q:=t.bulk_kids;have v:=@zlO t.kind t.name (by omega);have R:(⟨#[40]⟩:ByteArray).size=1:=rfl;have U:(⟨#[41]⟩:ByteArray).size=1:=rfl;have V:(⟨#[58]⟩:ByteArray).size=1:=rfl;have w:(t.kids.isEmpty&&!(decide (t.kind=3)))=decide (t.kind<=2):=by
   have W:=zlV I;by_cases D:t.kids=[]
   ·have X:t.kids.length=0:=by rw[D];rfl
    rw[X]at p;have:t.kind=3\/t.kind<=2:=by
     rcases W with h|h|h|h|h|h|h|h|h|h<;>rw[h]at p ⊢<;>simp[kdn]at p<;>omega
    rw[D];by_cases z:t.kind=3
    ·simp[z]
    ·have:t.kind<=2:=by omega
     simp[z,this]
   ·have:¬t.kind<=2:=by
     intro h;have:t.kids.length=0:=by
      rcases(show t.kind=1\/t.kind=2 by omega)with h|h<;>rw[h]at p<;>simp[kdn]at p<;>simp[p]
     exact D (List.length_eq_zero_iff.1 this)
    simp[D,this]
  rw[T.text_def,w];have g:∀S,call 420 [.sc (.int .i64 (t.name.size:Int))] S=some (.sc (.string (yj t.name.size)),S):=fun S=>zJs (by omega);have A:=zBZ I;unfold zse at A;have Y:(ltr t.kind).size=1:=rfl;have c:∀(h:ByteArray),h.size<=1099511627799->∀e rg S',e 4=.sc (.string (h++y6 t.kids))->fin [.tmp 2] (zH AA (.seq (.ops [
   ⟨some 53,.pur .mov,[.t 4],none⟩,
   ⟨some 54,.pur (.bin .add),[.t 53,.k (.s ⟨#[41]⟩)],none⟩,
   ⟨some 2,.pur .mov,[.t 54],none⟩]) .ret) (st 55 e rg S') [])=some (.sc (.string (h++y6 t.kids++⟨#[41]⟩)),S'):=by
   intro h Z e rg S' j;have p3:pev (.bin .add) [.sc (.string (h++y6 t.kids)),.s ⟨#[41]⟩]=some (.sc (.string (h++y6 t.kids++⟨#[41]⟩))):=yz (by rw[xai];omega);simp[j,p3]
  have B:∀(h:ByteArray),h.size<=1099511627798->pev (.bin .add) [.sc (.string h),.s ⟨#[40]⟩]=some (.sc (.string (h++⟨#[40]⟩))):=fun h Z=>yz (by omega);have K:=yz (x:=ltr t.kind) (y:=yj t.name.size) (by have:=zac (n:=t.name.size) (by omega);rw[zdK];omega);have C:pev (.bin .add) [.sc (.string (ltr t.kind++yj t.name.size)),.s ⟨#[58]⟩]=some (.sc (.string (ltr t.kind++yj t.name.size++⟨#[58]⟩))):=yz (by have:=zac (n:=t.name.size) (by omega);rw[xai,zdK];omega);have M:=yz (x:=ltr t.kind++yj t.name.size++⟨#[58]⟩) (y:=t.name) (by have:=zac (n:=t.name.size) (by omega);rw[xai,xai,zdK];omega);by_cases d:t.name=⟨#[]⟩
  ·have G:hdT t.kind t.name=ltr t.kind:=by unfold hdT zbC;rw[if_pos d,zcV]
   rw[G]at v ⊢;generalize ltr t.kind=L at *;by_cases f:t.kind<=2
   ·simp[zch,ze6,zj,A,d,f]
   ·have q:=B L (by omega);simp[-zg,zch,ze6,zj,A,d,f,q];refine zsl (h:=L++⟨#[40]⟩) hb (by rw[xai];omega) ih _ _ ?_ ?_ ?_ ?_ _ ?_
    ·simp
    ·simp
    ·simp
    ·simp
    intro e rg S' j;simpa[j]using c (L++⟨#[40]⟩) (by rw[xai];omega) e rg S' j
  ·have G:hdT t.kind t.name=ltr t.kind++yj t.name.size++⟨#[58]⟩++t.name:=by unfold hdT zbC;rw[if_neg d];simp only[zcU]
   rw[G]at v ⊢;generalize ltr t.kind=L at *;generalize hH:L++yj t.name.size++⟨#[58]⟩++t.name=H at *;by_cases f:t.kind<=2
   ·simp[zch,ze6,zj,A,d,f,g,K,C,M]
   ·have q:=B H (by omega);simp[-zg,zch,ze6,zj,A,d,f,g,K,C,M,q];refine zsl (h:=H++⟨#[40]⟩) hb (by rw[xai];omega) ih _ _ ?_ ?_ ?_ ?_ _ ?_
    ·simp
    ·simp
    ·simp
    ·simp
    intro e rg S' j;simpa[j]using c (H++⟨#[40]⟩) (by rw[xai];omega) e rg S' j
theorem zmP{t:T}(h:t.bulk<=1099511627776)(c:t.rshp=true):call 227 [.agg t.cells] S=some (.sc (.string t.text),S):=zuX _ t S (xay _) h c
theorem zJg{t:T}(h:t.bulk<=1099511627776)(c:t.rshp=true):call 347 [.agg t.cells] S=some (.sc (.string t.text),S):=zuY _ t S (xay _) h c
end
def vQ(k:Int)(l:List T):Bool:=if k=9 then(match l with|a::b::_=>!(sLt b.text a.text)|_=>true)else true
mutual
def T.ord:T->Bool
 | .mk k _ l=>vQ k l&&zdU l
def zdU:List T->Bool
 |[]=>true
 |t::l=>t.ord&&zdU l
end
mutual
def T.ofit:T->Prop
 | .mk k _ l=>(k=9->∀u∈l,u.bulk<=1099511627776)/\zdQ l
def zdQ:List T->Prop
 |[]=>True
 |t::l=>t.ofit/\zdQ l
end
theorem T.ord_def:∀t:T,t.ord=(vQ t.kind t.kids&&zdU t.kids)
 | .mk _ _ _=>by rw[T.ord];rfl
theorem zfL:∀{l:List T},zdU l=l.all T.ord
 |[]=>rfl
 |t::l=>by rw[zdU,List.all_cons,zfL]
theorem zsO:∀{l:List T},zdQ l↔∀t∈l,t.ofit
 |[]=>by simp[zdQ]
 |t::l=>by simp[zdQ,zsO (l:=l)]
theorem T.ofit_def:∀t:T,t.ofit↔(t.kind=9->∀u∈t.kids,u.bulk<=1099511627776)/\∀u∈t.kids,u.ofit
 | .mk _ _ _=>by rw[T.ofit,zsO];rfl
mutual
theorem T.ofit_bulk:∀{t:T},t.bulk<=1099511627776->t.ofit
 | .mk k n l,h=>by
   rw[T.bulk]at h;exact⟨fun _ u c=>by have:=zko (l:=l) u c;omega,zsN (by omega)⟩
theorem zsN:∀{l:List T},yF l<=1099511627776->zdQ l
 |[],_=>trivial
 |t::l,h=>by
  rw[yF]at h;exact⟨T.ofit_bulk (by omega),zsN (by omega)⟩
end
def T.right(t:T):Bool:=t.rshp&&decide (t.dp<=60)&&t.ord
theorem T.right_iff{t:T}:t.right=true↔t.rshp=true/\t.dp<=60/\t.ord=true:=by
 unfold T.right;simp only[xab,decide_eq_true_eq,and_assoc]
theorem T.rshp_kid{t u:T}(h:t.rshp=true)(c:u∈t.kids):u.rshp=true:=by
 rw[t.rshp_def,xab]at h;exact zd9.1 h.2 u c
theorem T.share_kids{t:T}(h:t.rshp=true)(c:t.kind=9):∃a b,t.kids=[a,b]:=by
 rw[t.rshp_def,xab]at h;obtain⟨_,_,d⟩:=T.one_iff.1 h.1;have e:kdn t.kind=2:=by rw[c];rfl
 have:t.kids.length=2:=by omega
 match f:t.kids,this with
 |[a,b],_=>exact⟨a,b,rfl⟩
section
variable{S:AS}
theorem zI6{t:T}(h:∀S,call 222 [.agg t.cells] S=some (.sc (.bool t.ord),S)):call 322 [.agg t.cells] S=some (.sc (.bool (!t.ord)),S):=by
 rw[zi zxb rfl (by simp) rfl];simp[f322,zqd,h]
theorem zsZ:∀(n:Nat) (t:T) (S:AS),sizeOf t<n->t.fits->t.ofit->t.rshp=true->call 222 [.agg t.cells] S=some (.sc (.bool t.ord),S)
 |0,_,_,h,_,_,_=>by omega
 |n+1,t,S,hn,hf,ho,hr=>by
  obtain⟨B,C⟩:=T.fits_kids hf;obtain⟨j,D⟩:=t.ofit_def.1 ho;rw[zi a222 rfl (by simp) rfl];have d:=fun S'=>@zui S' (.fn 322 [] []) 322 [] t.kids (fun t=>!t.ord) rfl B (fun u g E=>zI6 (fun S=>zsZ n u S (by have:=T.kid_lt g;omega) (C u g) (D u g) (T.rshp_kid hr g)));rw[t.ord_def,zfL,<-znU];by_cases e:t.kind=9
  ·obtain⟨a,b,c⟩:=T.share_kids hr e;have k:a∈t.kids:=by rw[c];simp
   have p:b∈t.kids:=by rw[c];simp
   have q:=fun S=>@zmP S a (j e a k) (T.rshp_kid hr k);have v:=fun S=>@zmP S b (j e b p) (T.rshp_kid hr p);have w:pev (.iaddr 3) [zh t.kids,.i 0]=some (.iptr a.cells):=zJ (i:=0) (by rw[c];rfl);have z:pev (.iaddr 3) [zh t.kids,.i 1]=some (.iptr b.cells):=zJ (i:=1) (by rw[c];rfl);have f:vQ t.kind t.kids=!(sLt b.text a.text):=by unfold vQ;rw[if_pos e,c]
   rw[f];cases A:sLt b.text a.text with
   |true=>simp[zdf,zhb,eq_true e,w,z,q,v,A]
   |false=>simp[zdf,zhb,eq_true e,w,z,q,v,A,d]
  ·have f:vQ t.kind t.kids=true:=by unfold vQ;rw[if_neg e]
   simp[zdf,zhb,e,f,d]
theorem zIK{t:T}(c:t.fits)(d:t.ofit)(e:t.rshp=true):call 222 [.agg t.cells] S=some (.sc (.bool t.ord),S):=zsZ _ t S (xay _) c d e
theorem zoO{t:T}{S:AS}(c:t.fits):call 221 [.agg t.cells,.i 60] S=some (.sc (.bool (t.rshp&&decide (t.dp<=60))),S):=by
 rw[<-T.shp_eq];exact @zua 60 t S (by omega) c
theorem zt3{t:T}(e:t.fits)(f:t.ofit):call 116 [.agg t.cells] S=some (.sc (.bool t.right),S):=by
 rw[zi zvw rfl (by simp) rfl];have c:=fun S=>@zoO t S e;unfold T.right;cases d:(t.rshp&&decide (t.dp<=60))with
 |false=>rw[d]at c;simp[zeI,zkP,c]
 |true=>
  rw[d]at c;have g:=fun S=>@zIK S t e f (by rw[xab]at d;exact d.1);simp[zeI,zkP,c,g]
def T.txt(t:T):ByteArray:=if t.rshp&&decide (t.dp<=60)then t.text else⟨#[]⟩
theorem zmM{t:T}(e:t.bulk<=1099511627776):call 121 [.agg t.cells] S=some (.sc (.string t.txt),S):=by
 rw[zi zvA rfl (by simp) rfl];have c:=fun S=>@zoO t S (T.fits_bulk e);unfold T.txt;cases d:(t.rshp&&decide (t.dp<=60))with
 |false=>rw[d]at c;simp[zeJ,zkQ,c]
 |true=>
  rw[d]at c;have f:=fun S=>@zmP S t e (by rw[xab]at d;exact d.1);simp[zeJ,zkQ,c,f]
theorem zIN{a b:T}(c:a.bulk<=1099511627776)(d:b.bulk<=1099511627776):call 229 [.agg a.cells,.agg b.cells] S=some (.sc (.bool (sLt a.txt b.txt)),S):=by
 rw[zi a229 rfl (by simp) rfl];have e:=fun S=>@zmM S a c;have f:=fun S=>@zmM S b d;simp[zhi,zpJ,e,f]
def qH(a b:T):T:=if sLt b.txt a.txt then .mk 9 ⟨#[]⟩ [b,a]else .mk 9 ⟨#[]⟩ [a,b]
theorem zIx{a b:T}(e:a.bulk<=1099511627776)(f:b.bulk<=1099511627776):call 127 [.agg a.cells,.agg b.cells] S=some (.agg (qH a b).cells,S):=by
 rw[zi a127 rfl (by simp) rfl];have c:=fun S=>@zIN S b a f e;unfold qH;cases d:sLt b.txt a.txt with
 |true=>rw[d]at c;simp[zeK,zkR,c,T.cells,ym]
 |false=>rw[d]at c;simp[zeK,zkR,c,T.cells,ym]
theorem T.text_ne{t:T}:t.text≠⟨#[]⟩:=by
 intro h;have:=congrArg ByteArray.size h;rw[T.text_def]at this;have c:(hdT t.kind t.name).size=1+(zbC t.name).size:=by unfold hdT;rw[xai,zdK]
 have d:(⟨#[]⟩:ByteArray).size=0:=rfl;split at this
 ·omega
 ·simp only[xai]at this;omega
theorem zcD{t:T}(h:t.bulk<=1099511627776):call 243 [.agg t.cells] S=some (.sc (.string t.txt),S):=by
 rw[zi zwn rfl (by simp) rfl];have j:=T.fits_bulk h;have d:∀S,call 314 [.agg t.cells,.i 61] S=some (.sc (.int .i64 (t.dep 61:Nat)),S):=fun S=>@zmV 61 t S (by omega) j;have e:=fun S=>@zJf S t j;rw[T.dep_eq]at d;unfold T.txt;by_cases f:t.dp<=60
 ·have c:¬((60:Int)<(min 61 t.dp:Nat)):=by omega
  cases g:t.rshp with
  |false=>rw[g]at e;simp[f243,zhm,d,e,f,c]
  |true=>
   rw[g]at e;have k:=fun S=>@zJg S t h g;simp[f243,zhm,d,e,k,f,c]
 ·have c:(60:Int)<(min 61 t.dp:Nat):=by omega
  simp[f243,zhm,d,f,c]
end
def yg:ByteArray:=⟨#[111,116,112]⟩
def vq:ByteArray:=⟨#[99,111,100,101]⟩
def yo:ByteArray:=⟨#[115,112,97,107,101]⟩
def zbt:ByteArray:=⟨#[102,97,99,116,111,114]⟩
def wP(n:T):T:=zG yg [n]
def znl(ak l c:T):T:=zG yg [jk ak 45 (zG vq [l,c])]
def zcP(ak d c:T):T×Int:=match zX yg 1 d with
 |some [x]=>(znl ak x c,0)
 |_=>(tZ,2)
def yT(x u:T):T:=zcF (wQ x) (tWd u)
def zej(u y:T):T:=zG yo [yT y u]
def vW(u w:T)(p:T):T×Int:=if p.kind=8 then(match p.kids with
 |[x]=>if w.same (tWd u)then(x,0)else(tZ,6)
 |_=>(tZ,2))else(tZ,2)
def j9(u t:T):T×Int:=if t.kind=10 then(match t.kids with
 |[p,w]=>vW u w p
 |_=>(tZ,2))else(tZ,2)
def zbb(x y u o a b:T)(n:Int):T:=zal (qH x y) (tWd u) o a (yC b) n
def zaj(x y u o a b:T):T:=jk (zbb x y u o a b 1) 60 (zG zbt [])
def zj9(u b x l:T)(r:T×Int):T×T×Int:=if r.2=0 then(zG yo [yT x u,zaj x r.1 u l (yT x u) b],zbb x r.1 u l (yT x u) b 0,0)else(tZ,tZ,r.2)
def zes(u b o x:T):T×T×Int:=match zX yo 1 o with
 |some [l]=>zj9 u b x l (j9 u l)
 |_=>(tZ,tZ,2)
def zez(u b y l f:T)(r:T×Int):T×Int:=if r.2=0 then(if f.same (zaj r.1 y u (yT y u) l b)then(zbb r.1 y u (yT y u) l b 0,0)else(tZ,6))else(tZ,r.2)
def zau(u b y p:T):T×Int:=match zX yo 2 p with
 |some [l,f]=>zez u b y l f (j9 u l)
 |_=>(tZ,2)
def exC(x y u o a b:T):List AV:=x.cells++(y.cells++(u.cells++(o.cells++(a.cells++b.cells))))
def zbc(x y:T):Prop:=∀S,call 127 [.agg x.cells,.agg y.cells] S=some (.agg (qH x y).cells,S)
theorem kU{x y u o a b:T}:exC x y u o a b=[.sc (.int .i64 x.kind),.sc (.string x.name),zh x.kids,.sc (.int .i64 y.kind),.sc (.string y.name),zh y.kids,.sc (.int .i64 u.kind),.sc (.string u.name),zh u.kids,
 .sc (.int .i64 o.kind),.sc (.string o.name),zh o.kids,.sc (.int .i64 a.kind),.sc (.string a.name),zh a.kids,.sc (.int .i64 b.kind),.sc (.string b.name),zh b.kids]:=by
 unfold exC;rw[zq x,zq y,zq u,zq o,zq a,zq b];rfl
section
variable{x y u o a b:T}
@[simp] theorem zLl:(exC x y u o a b).length=18:=by rw[kU];rfl
@[simp] theorem zLn:(exC x y u o a b).take 3=x.cells:=by rw[kU,zq x];rfl
@[simp] theorem zLs:((exC x y u o a b).drop 3).take 3=y.cells:=by rw[kU,zq y];rfl
@[simp] theorem zLt:((exC x y u o a b).drop 6).take 3=u.cells:=by rw[kU,zq u];rfl
@[simp] theorem zLu:((exC x y u o a b).drop 9).take 3=o.cells:=by rw[kU,zq o];rfl
@[simp] theorem zLo:((exC x y u o a b).drop 12).take 3=a.cells:=by rw[kU,zq a];rfl
@[simp] theorem zLp:((exC x y u o a b).drop 15).take 3=b.cells:=by rw[kU,zq b];rfl
@[simp] theorem zLq:(exC x y u o a b).drop 15=b.cells:=by rw[kU,zq b];rfl
@[simp] theorem zLr:(exC x y u o a b).take 18=exC x y u o a b:=by rw[kU];rfl
@[simp] theorem zLm:yL (exC x y u o a b)=exC x y u o a b:=by rw[kU];simp[zjf]
theorem zAf:(exC x y u o a b).all AV.isCell=true:=by rw[kU];simp
@[simp] theorem zo0:(∀v:AV,v∈exC x y u o a b->v.isCell=true)=True:=eq_true (List.all_eq_true.1 zAf)
end
theorem i45:inI 45:=by unfold inI;omega
theorem i60:inI 60:=by unfold inI;omega
theorem i1:inI 1:=by unfold inI;omega
theorem i0:inI 0:=by unfold inI;omega
section
variable{S:AS}
theorem zIE{n:T}:call 157 [.agg n.cells] S=some (.agg (wP n).cells,S):=by
 rw[zi zvP rfl (by simp) rfl];have c:∀S,call 62 [.s ⟨#[111,116,112]⟩,.lst 3 true [n.cells]] S=some (.agg (wP n).cells,S):=fun S=>p62 zfs (by show 2*48<=_;omega);simp[zgW,zpo,c]
@[simp] theorem zOw{x u:T}:call 269 [.agg x.cells,.agg u.cells] S=some (.agg (yT x u).cells,S):=by
 rw[zi zwC rfl (by simp) rfl];simp[zhu,zpV,yT]
theorem zIC{u y:T}:call 153 [.agg u.cells,.agg y.cells] S=some (.agg (zej u y).cells,S):=by
 rw[zi zvN rfl (by simp) rfl];have c:∀S,call 62 [.s ⟨#[115,112,97,107,101]⟩,.lst 3 true [(yT y u).cells]] S=some (.agg (zej u y).cells,S):=fun S=>p62 zfs (by show 2*48<=_;omega);simp[zgV,zpn,c]
theorem zue{x y u o a b:T}{n:Int}(d:zbc x y)(e:inI n):call 272 [.agg (exC x y u o a b),.sc (.int .i64 n)] S=some (.agg (zbb x y u o a b n).cells,S):=by
 rw[zi zwF rfl (by simp) rfl];have c:=d;unfold zbc at c;have f:=fun S=>@zJj S (qH x y) (tWd u) o a (yC b) n e;simp[zhw,zpX,c,f,zbb,zo0]
theorem zIT{x y u o a b:T}(c:zbc x y):call 271 [.agg (exC x y u o a b)] S=some (.agg (zaj x y u o a b).cells,S):=by
 rw[zi zwE rfl (by simp) rfl];have d:=fun S=>@zue S x y u o a b 1 c i1;have e:∀S,call 62 [.s ⟨#[102,97,99,116,111,114]⟩,.lst 0 true []] S=some (.agg (zG zbt []).cells,S):=fun S=>p62 zft (by show 1*48<=_;omega);have f:=fun S=>@zmQ S (zbb x y u o a b 1) (zG zbt []) 60 i60;simp[zhv,zpW,d,e,f,zaj,zo0]
theorem zIS{u t:T}(C:t.bb):call 270 [.agg t.cells,.agg u.cells] S=some (zt (j9 u t),S):=by
 rw[zi zwD rfl (by simp) rfl];unfold j9;by_cases f:t.kind=10
 ·rw[if_pos f];by_cases q:t.kids.length=2
  ·obtain⟨p,w,d⟩:∃p w,t.kids=[p,w]:=by
    match D:t.kids,q with
    |[p,w],_=>exact⟨p,w,rfl⟩
   have k:pev (.iaddr 3) [zh t.kids,.i 0]=some (.iptr p.cells):=zJ (i:=0) (by rw[d];rfl);have n:pev (.iaddr 3) [zh t.kids,.i 1]=some (.iptr w.cells):=zJ (i:=1) (by rw[d];rfl);have fw:w.fits:=T.bb_fits (T.bb_kids C w (by rw[d];simp));have c:(t.kids.length:Int)=2:=by omega
   have g:(match t.kids with|[p,w]=>vW u w p|_=>(tZ,2))=vW u w p:=by rw[d]
   rw[g];unfold vW;by_cases j:p.kind=8
   ·rw[if_pos j];by_cases v:p.kids.length=1
    ·obtain⟨x,z⟩:∃x,p.kids=[x]:=by
      match D:p.kids,v with
      |[x],_=>exact⟨x,rfl⟩
     have A:pev (.iaddr 3) [zh p.kids,.i 0]=some (.iptr x.cells):=zJ (i:=0) (by rw[z];rfl);have e:(p.kids.length:Int)=1:=by omega
     have g:(match p.kids with|[x]=>if w.same (tWd u)then(x,(0:Int))else(tZ,6)|_=>(tZ,2))=if w.same (tWd u)then(x,0)else(tZ,6):=by rw[z]
     rw[g];cases B:w.same (tWd u)with
     |true=>simp[zaD,zcd,eq_true f,c,k,n,A,fw,eq_true j,e,B,zt]
     |false=>
      simp[zaD,zcd,eq_true f,c,k,n,A,fw,eq_true j,e,B,zt,tZ,T.cells,ym];rfl
    ·have g:(match p.kids with|[x]=>if w.same (tWd u)then(x,(0:Int))else(tZ,6)|_=>(tZ,2))=(tZ,2):=by
      split
      ·rename_i h;rw[h]at v;simp at v
      ·rfl
     have e:¬(p.kids.length:Int)=1:=by omega
     rw[g];simp[zaD,zcd,eq_true f,c,k,n,eq_true j,e,zt,tZ,T.cells,ym];rfl
   ·rw[if_neg j];simp[zaD,zcd,eq_true f,c,k,n,j,zt,tZ,T.cells,ym];rfl
  ·have g:(match t.kids with|[p,w]=>vW u w p|_=>(tZ,2))=(tZ,2):=by
    split
    ·rename_i h;rw[h]at q;simp at q
    ·rfl
   have c:¬(t.kids.length:Int)=2:=by omega
   rw[g];simp[zaD,zcd,eq_true f,c,zt,tZ,T.cells,ym];rfl
 ·rw[if_neg f];simp[zaD,zcd,f,zt,tZ,T.cells,ym];rfl
def zd3(r:T×T×Int):AV:=.tup [.agg r.1.cells,.agg r.2.1.cells,.sc (.int .i64 r.2.2)]
theorem zuK{x y u o a b:T}:pev (.build [.i 0,.s ⟨#[]⟩,.lst 0 true [],.i 0,.s ⟨#[]⟩,.lst 0 true [],.i 0,.s ⟨#[]⟩,.lst 0 true [],.i 0,.s ⟨#[]⟩,.lst 0 true [],.i 0,.s ⟨#[]⟩,.lst 0 true [],.i 0,.s ⟨#[]⟩,.lst 0 true []] [(0,3),(3,3),(6,3),(9,3),(12,3),(15,3)])
 [.agg x.cells,.agg y.cells,.agg u.cells,.agg o.cells,.agg a.cells,.agg b.cells]=some (.agg (exC x y u o a b)):=by
 rw[kU,zq x,zq y,zq u,zq o,zq a,zq b];simp
theorem zID{u b y p:T}(hp:p.bb)(F:∀l f x,zX yo 2 p=some [l,f]->j9 u l=(x,0)->zbc x y):call 155 [.agg u.cells,.agg b.cells,.agg y.cells,.agg p.cells] S=some (zt (zau u b y p),S):=by
 rw[zi zvO rfl (by simp) rfl];have d:=fun S=>@s78 S yo 2 p (by have:=T.bb_len hp;omega);simp only[yo]at d;unfold zau;cases c:zX yo 2 p with
 |none=>
  simp only[yo]at c;simp[zb6,zeL,d,c,zF,zt,tZ,T.cells,ym];rfl
 |some l=>
  obtain⟨j,w⟩:=jO (n:=2) c
  match l,j with
  |[l,f],_=>
   have k:=F l f;have j:=T.bb_kids hp l (w l (by simp));have z:=T.bb_fits (T.bb_kids hp f (w f (by simp)));have q:pev (.iaddr 3) [zh [l,f],.i 0]=some (.iptr l.cells):=zJ (i:=0) rfl;have A:pev (.iaddr 3) [zh [l,f],.i 1]=some (.iptr f.cells):=zJ (i:=1) rfl;have h:=fun S=>@zIS S u l j;simp only;cases B:j9 u l with
   |mk x er=>
    rw[B]at h;have v:=fun G=>k G c;simp only[yo]at c;unfold zez;by_cases C:er=0
    ·subst C;have e:=v x B;have D:=fun S=>@zIT S x y u (yT y u) l b e;have E:=fun S=>@zue S x y u (yT y u) l b 0 e i0;cases g:f.same (zaj x y u (yT y u) l b)with
     |true=>simp[-jl,zb6,zeL,d,c,zF,zt,q,A,h,D,E,zuK,z,g]
     |false=>
      simp[-jl,zb6,zeL,d,c,zF,zt,q,A,h,D,E,zuK,z,g];simp[tZ,T.cells,ym];rfl
    ·simp[zb6,zeL,d,c,zF,zt,q,h,C,tZ,T.cells,ym];rfl
end
def Mem(S:AS)(id:Nat)(l:List Int):Prop:=S.heap id=some (.rows 1 (zV l))
theorem zrC{l:List Int}{i:Nat}{x:Int}(h:l[i]?=some x):(zV l)[i]?=some [.sc (.int .i64 x)]:=by simp[zV,h]
section
variable{S:AS}{id:Nat}{l:List Int}
theorem Mem.ld(h:Mem S id l){i:Nat}{x:Int}(c:l[i]?=some x){d:Option Nat}{rg:Nat->Option (List AV)}:ze (.ld none 1 false) d rg S [.ptr id i 0]=some (.sc (.int .i64 x),none,S):=by
 rw[zY h,zrC c];rfl
theorem Mem.st(h:Mem S id l)(c:S.ro<=id){i:Nat}{x:Int}(f:i<l.length){d:Option Nat}{rg:Nat->Option (List AV)}:ze (.st none 1) d rg S [.ptr id i 0,.sc (.int .i64 x)]=some (.junk,none,S.set id (some (.rows 1 (zV (l.set i x))))):=by
 obtain⟨y,g⟩:=yV f;unfold Mem at h;have e:(zV l).set i [.sc (.int .i64 x)]=zV (l.set i x):=by simp[zV,List.map_set]
 simp[ze,h,c,zrC g,<-e]
theorem Mem.set{c:List Int}:Mem (S.set id (some (.rows 1 (zV c)))) id c:=if_pos rfl
theorem zJO{i n:Nat}(h:i+n<=l.length):qF (zV l) i (List.replicate n [.i 0])=zV (l.take i++(List.replicate n 0++l.drop (i+n))):=by
 simp[qF,zV,List.map_take,List.map_drop]
structure Upd(S S':AS)(id:Nat):Prop where
 n:S'.n=S.n
 ro:S'.ro=S.ro
 h:∀j,j≠id->S'.heap j=S.heap j
theorem Upd.refl:Upd S S id:=⟨rfl,rfl,fun _ _=>rfl⟩
theorem Upd.set{S':AS}(h:Upd S S' id){o:Option yX}:Upd S (S'.set id o) id:=⟨h.n,h.ro,fun j c=>by
 show(if j=id then o else S'.heap j)=_;rw[if_neg c];exact h.h j c⟩
theorem Mem.clear(h:Mem S id l)(f:S.ro<=id){k c:Nat}(j:k+c<=l.length){lim:Option Nat}:
 ∃S' g,(∀(d:Option Nat) (rg:Nat->Option (List AV)),ze (.clearS 1 [.i 0]) d rg S [.arr id 1 k c lim]=some (.tup [],none,S'))/\Upd S S' id/\Mem S' id g/\g.length=l.length/\g.take k=l.take k:=by
 unfold Mem at h;by_cases n:c=0
 ·exact⟨S,l,fun d rg=>by simp[ze,n],.refl,h,rfl,rfl⟩
 ·have e:=@zJO l k c j;refine⟨S.set id (some (.rows 1 (zV (l.take k++(List.replicate c 0++l.drop (k+c)))))),_,fun d rg=>?_,Upd.refl.set,Mem.set,?_,?_⟩
  ·simp[ze,n,h,f,e,j]
  ·simp;omega
  ·rw[List.take_append_of_le_length (by simp;omega),List.take_take];simp
theorem zbD{off n i:Nat}{lim:Option Nat}(h:i<n):pev (.iaddr 1) [.arr id 1 off n lim,.sc (.int .i64 (i:Int))]=some (.ptr id (off+i) 0):=by
 simp[pev];omega
end
def yG:List Int->List Int
 |[]=>[]
 |[a]=>[a]
 |a::b::l=>if a=b then yG (b::l)else a::yG (b::l)
theorem zoo:∀{l:List Int} {a b:Int},yG (l++[a,b])=if a=b then yG (l++[a])else yG (l++[a])++[b]
 |[],a,b=>by
  simp only[List.nil_append,yG];split
  ·rename_i h;rw[h]
  ·rfl
 |[c],a,b=>by
  simp only[List.singleton_append,yG];by_cases e:c=a
  ·by_cases f:a=b<;>simp[e,f]
  ·by_cases f:a=b<;>simp[e,f]
 |c::d::l,a,b=>by
  have ih:=@zoo (d::l) a b;simp only[List.cons_append]at ih ⊢;rw[yG,yG,ih];by_cases e:c=d
  ·simp[e]
  ·by_cases f:a=b<;>simp[e,f]
theorem zop{l:List Int}{i:Nat}{a b:Int}(d:l[i]?=some a)(e:l[i+1]?=some b):yG (l.take (i+2))=if a=b then yG (l.take (i+1))else yG (l.take (i+1))++[b]:=by
 have c:l.take (i+1)=l.take i++[a]:=by rw[xav,d];rfl
 have f:l.take (i+2)=l.take i++[a,b]:=by rw[xav,c,e];simp
 rw[c,f,zoo]
theorem zon:∀{l:List Int},(yG l).length<=l.length
 |[]=>xad _
 |[a]=>xad _
 |a::b::l=>by
  have:=@zon (b::l);rw[yG];split
  ·simp at this ⊢;omega
  ·simp at this ⊢;omega
theorem zkH{α:Type}{l m:List α}{i j:Nat}(h:m.drop j=l.drop j)(c:j<=i):m[i]?=l[i]?:=by
 have e:=congrArg (fun x=>x[i-j]?) h;simp only[List.getElem?_drop]at e
 rwa [Nat.add_sub_cancel' c]at e
theorem zuH{l:List Int}{k:Nat}{x:Int}(h:k<l.length):(l.set k x).take (k+1)=l.take k++[x]:=by
 rw[xav,List.take_set_of_le (xad _)];simp[h]
def kZ(g:Int->Bool):List Int->Nat->Int
 |[],_=> -1
 |a::l,i=>if g a then(i:Int)else kZ g l (i+1)
theorem zrF{g:Int->Bool}{l:List Int}{i:Nat}{x:Int}(h:l[i]?=some x):kZ g (l.drop i) i=if g x then(i:Int)else kZ g (l.drop (i+1)) (i+1):=by
 obtain⟨c,e⟩:=xal.1 h;rw[List.drop_eq_getElem_cons c,e,kZ]
theorem zrG{g:Int->Bool}:∀{l:List Int} {i:Nat},(kZ g l i= -1/\l.filter (fun x=>!g x)=l)\/∃j x,kZ g l i=((i+j:Nat):Int)/\l[j]?=some x/\g x=true/\(l.take j).filter (fun x=>!g x)=l.take j
 |[],i=>.inl ⟨rfl,rfl⟩
 |a::l,i=>by
  rw[kZ];cases c:g a with
  |true=>exact .inr ⟨0,a,by simp,rfl,c,rfl⟩
  |false=>
   rcases @zrG g l (i+1)with⟨d,e⟩|⟨j,x,d,e,f,h⟩
   ·exact .inl ⟨by simpa using d,by simp[c,e]⟩
   ·refine .inr ⟨j+1,x,?_,by simpa using e,f,by simp[c,h]⟩;simp only[xau,if_false,d];omega
theorem zre{g:Int->Bool}{l:List Int}{i:Nat}{x:Int}(h:l[i]?=some x):(l.take (i+1)).filter (fun x=>!g x)=if g x then(l.take i).filter (fun x=>!g x)else(l.take i).filter (fun x=>!g x)++[x]:=by
 rw[xav,h,List.filter_append];cases c:g x<;>simp[c]
section
variable{S:AS}{id:Nat}{m:List Int}
theorem zBx{n k:Nat}{lim:Option Nat}{cap:List AV}{g:Int->Bool}(h:Mem S id m)(M:n<=m.length)(p:n<=4611686018427387904)(A:cap.any AV.isReg=false)
 (I:∀x∈m.take n,call k (.sc (.int .i64 x)::cap) S=some (.sc (.bool (g x)),S)):call 367 [.arr id 1 0 n lim,.fn k [] cap] S=some (.sc (.int .i64 (kZ g (m.take n) 0)),S):=by
 rw[z8 zxF (by simp) rfl];simp only[zh6];simp[zqu];have B:(m.take n).length=n:=by rw[List.length_take];omega
 have J:kZ g (m.take n) 0=kZ g ((m.take n).drop 0) 0:=rfl;rw[J];refine y8 (α:=Nat) (R:=fun i r=>r=some (.sc (.int .i64 (kZ g ((m.take n).drop i) i)),S)) (fun i e rg S'=>i<=n/\S'=S/\e 0=.arr id 1 0 n lim/\e 1=.fn k [] cap/\e 7=.sc (.int .i64 (n:Nat))/\e 8=.sc (.int .i64 (i:Nat))) (fun i=>n-i) ?_ 0 _ _ _ ?_;rotate_left
 ·exact⟨by omega,rfl,by simp,by simp,by simp,by simp⟩
 intro N q i e rg S' ⟨O,hS,C,D,z,E⟩ ih;subst hS;by_cases A:i<n
 ·obtain⟨x,G⟩:=yV (l:=m) (i:=i) (by omega);have f:(m.take n)[i]?=some x:=by rw[xaq,if_pos A];exact G
  have K:IntKind.i64.wrap ((i:Int)+1)=((i+1:Nat):Int):=w64 (by omega);have v:(i:Int)<(n:Int):=by omega
  have c:=I x (xaj f);have w:=fun d rg=>@Mem.ld S' id m h i x G d rg;have j:=@zbD id 0 n i lim A;rw[Nat.zero_add]at j;cases p:g x with
  |true=>
   rw[p]at c;rw[zrF f,p];simp[zh7,C,D,z,E,v,j,w,c];rw[q];simp
  |false=>
   rw[p]at c;simp[zh7,C,D,z,E,v,j,w,c,K];refine ih (i+1) _ _ _ (by omega) (fun _ h=>?_) ?_
   ·rw[h,zrF f,p];simp
   ·exact⟨by omega,rfl,by simp[C],by simp[D],by simp[z],by simp⟩
 ·have F:i=n:=by omega
  subst F;have L:(m.take i).drop i=[]:=by rw[<-B];simp
  rw[L];simp[zh7,z,E,kZ];rw[q];simp
end
end Abs
