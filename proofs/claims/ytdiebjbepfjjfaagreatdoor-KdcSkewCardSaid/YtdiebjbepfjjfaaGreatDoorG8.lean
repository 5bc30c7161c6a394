/- The document's KDC in memory, several users: it takes a request. (printed by genU.py) -/
import Derived.Test.YtdiebjbepfjjfaaGreatDoorG7
import Derived.Test.YtdiebjbepfjjfaaGreatDoorG6
import Derived.Test.YtdiebjbepfjjfaaGreatDoorG4
import Derived.Test.YtdiebjbepfjjfaaGreatDoorG5
set_option maxHeartbeats 16000000
set_option maxRecDepth 100000
set_option linter.unusedVariables false
set_option linter.unusedSimpArgs false
set_option linter.unusedSectionVars false
namespace Abs
open Go
section
variable{us:List Us}{i:Nat}{S:AS}{k:Nat}{L:Loc}{K:Kd}{R:List (List AV)}
theorem yE.same(h:yE us i S k L K R){S':AS}(e:S'.ro=S.ro)(f:S.n<=S'.n)(g:∀j,j<S.n->S'.heap j=S.heap j):yE us i S' k L K R/\Chg S S' (yB k L) (yB k L):=
 ⟨h.keep e f fun x d _=>g x d,e,f,fun x d m=>⟨g x d,m⟩⟩
theorem zsx(h:yE us i S k L K R)(F:K.okk)(hR:R.length<=1000){t:T}{now:Int}(ht:t.lo)(ay:now.natAbs<=100000000000000)(am:∀cl,ku t=some cl->vD us i K.u cl):
 ∃S' L' R',call 137 [.ptr k 0 0,.agg t.cells,.sc (.int .i64 now)] S=some (.agg (K.req t now).1.cells,S')/\yE us i S' k L' (K.req t now).2.1 R'/\Chg S S' (yB k L) (yB k L')/\wq S S' (yB k L') R R' (K.req t now).2.2:=by
 rw[z8 zvH (by simp) rfl];have f:=zCe h.at_ (t:=t) (now:=now) ht F.cookies F.set2 am;have ok:=zmh (K:=K) (now:=now) ht;unfold Kd.req;generalize K.opens t now=r at *;obtain⟨x,p,e⟩:=r;unfold zd5 at f;simp only at f;have xc:=@Tlk.cell x (zk x.c.done) rfl;have U:∀S n,smE n->call 73 [.sc (.int .i64 n)] S=some (.agg (jx n).cells,S):=fun S n hn=>s73 (by unfold inI;unfold smE at hn;omega) (by unfold smE at hn;omega);by_cases h0:e=0
 case neg=>
  have hr:K.reqX now (x,p,e)=(jx e,K,none):=if_neg h0;rw[hr];refine⟨S,L,R,?_,h,Chg.refl,rfl⟩;have ap:=fun S=>U S e ok.e;simp[qa,qw,f,xc,h0,ap]
 subst h0;have xu:=ok.u rfl;have xn:=ok.now rfl;have V:=ok.client rfl;have aq:=ok.nonce rfl;have xd:=ok.done rfl;have xs:=ok.secret rfl;have xp:=ok.p rfl;simp only at xu xn V aq xd xs xp;have ag:x.c.done.length<x.u.set.length:=by
  rw[xu];rcases xd with e|e
  ·rw[e];exact F.set1
  ·unfold jK at e;simp at e;exact e.1
 have ar:∀s∈x.c.done,s∈K.u.set:=by
  rcases xd with e|e
  ·rw[e];intro s Q;cases Q
  ·unfold jK at e;simp at e;intro s Q;rw[<-e.2]at Q;exact List.mem_of_mem_take Q
 have az:=F.set2;have xk:x.okk:=⟨by rw[V];exact F.name,aq,by rw[xu]at ag;omega,fun s Q=>F.names s (ar s Q),by rw[xn];omega⟩;obtain⟨nx,aj⟩:∃nx,x.u.set[x.c.done.length]?=some nx:=⟨x.u.set[x.c.done.length],by simp[ag]⟩;have ah:nx∈K.u.set:=by rw[<-xu];exact xaj aj
 have hr:K.reqX now (x,p,0)=K.reqN x p now nx:=by unfold Kd.reqX;simp only[if_true,aj]
 rw[hr];have A:=wb aj;have o:=fun S=>@s84 S p;have hS:=h.hS;cases hi:yR p with
 |true=>
  rw[hi]at o;rw[zjx hi];obtain⟨S',G,h',g'⟩:=zjj h (by have:=F.n;omega) F.cookies xk (.inl rfl) aj;refine⟨S',L,R,?_,h',g',rfl⟩;simp[qa,qw,f,xc,o,G]
 |false=>
 rw[hi]at o;have B:=fun S=>@s82 S p;have y:=fun S=>@s84 S x.c.secret;have al:=fun S=>U S 11 (by simp[smE]);by_cases w:jo p=nx
 case neg=>
  rw[zmw hi (fun h=>w h.1)];refine⟨S,L,R,?_,h,Chg.refl,rfl⟩;have j:∀S,call 73 [AV.i 11] S=some (AV.agg (jx 11).cells,S):=al;simp[qa,qw,f,xc,o,A,B,w,j]
 have g:=fun S=>@zIO S x p nx xp xs (by rw[xn];omega);have as:=@zks x p nx;by_cases hc:nx=zr
 ·have n1:(nx=⟨#[99,104,97,108,108,101,110,103,101]⟩)=True:=eq_true hc;have hg:jo p=nx/\(nx=zr\/yR x.c.secret=false):=⟨w,.inl hc⟩;rw[zmx hi hg];unfold Kd.reqC;generalize yH x p nx=c at *;unfold zd4 at g;by_cases f0:c.2.2=0
  case neg=>
   rw[if_neg f0];have j:=fun S=>U S c.2.2 as;by_cases f6:c.2.2=6
   ·obtain⟨S1,W,b1,g1⟩:=zsy h.b F.fails;obtain⟨h1,G1⟩:=h.upB b1 g1;rw[<-V]at W;rw[if_pos f6];refine⟨S1,L,R,?_,h1,G1,rfl⟩;rw[f6]at g j ⊢;simp[qa,qw,f,xc,o,A,B,w,n1,g,h.at_.users,W,j]
   ·rw[if_neg f6];refine⟨S,L,R,?_,h,Chg.refl,rfl⟩;simp[qa,qw,f,xc,o,A,B,w,n1,g,f0,f6,j]
  rw[if_pos f0];rw[f0]at g;have z:=fun S=>@zcD S p xp;have w1:IntKind.i64.wrap (now+100)=now+100:=w64 (by omega);have w2:IntKind.i64.wrap (now+100+1)=now+100+1:=w64 (by omega);obtain⟨S1,ids1,an,C,c1,g1⟩:=Rf.cSeen (t:=now+100+1) (now:=now) (id:=p.txt) h.c F.cache;have ao:smE (Rf.seenR K.room K.cache p.txt (now+100+1) now).1:=zna;generalize Rf.seenR K.room K.cache p.txt (now+100+1) now=q at *;obtain⟨h1,G1⟩:=h.upC c1 g1;generalize ai:({L with ids:=ids1,cv:=an}:Loc)=P at *;unfold Kd.reqS;have H:=h.at_.cch;by_cases q0:q.1=0
  case neg=>
   rw[if_neg q0];have j:=fun S=>U S q.1 ao;refine⟨S1,P,R,?_,h1,G1,rfl⟩;simp[qa,qw,f,xc,o,A,B,w,n1,g,z,w1,w2,H,C,q0,j]
  rw[if_pos q0];rw[q0]at C;have no:nx≠yg:=by rw[hc];decide
  have N:(nx=⟨#[111,116,112]⟩)=False:=eq_false no;rw[if_neg no];obtain⟨v1,au,id,S3,a1,a2,a3,a4,a5,a6,a7,a8,a9⟩:=@zka S1 x.c.done nx h1.hS xk.done;obtain⟨h3,G3⟩:=h1.same a7 a8 a9;have G3:=G1.trans G3;have I:¬yB k P id:=fun e=>by have:=h1.own_lt e;omega
  have hD:DV S3 (yB k P) (.arr id 1 0 (x.c.done++[nx]).length none) (x.more nx).c.done:=.inr ⟨id,rfl,a4,a6,I⟩;have X:List.take 8 (x.cells (zk x.c.done))++.arr id 1 0 (x.c.done++[nx]).length none::List.drop 9 (x.cells (zk x.c.done))=(x.more nx).cells (.arr id 1 0 (x.c.done++[nx]).length none):=rfl;have Y:((x.more nx).cells (.arr id 1 0 (x.c.done++[nx]).length none)).all AV.isCell=true:=Tlk.cell rfl;have t8:List.take 1 (List.drop 8 ((x.more nx).cells (.arr id 1 0 (x.c.done++[nx]).length none)))=[.arr id 1 0 (x.c.done++[nx]).length none]:=rfl;have t17:List.take 1 (List.drop 17 ((x.more nx).cells (.arr id 1 0 (x.c.done++[nx]).length none)))=[zk x.u.set]:=rfl;have Z:List.take 29 ((x.more nx).cells (.arr id 1 0 (x.c.done++[nx]).length none))=(x.more nx).cells (.arr id 1 0 (x.c.done++[nx]).length none):=rfl;have aa:((x.more nx).cells (.arr id 1 0 (x.c.done++[nx]).length none)).length=29:=rfl;have ab:(x.more nx).okk:=⟨xk.client,xk.nonce,by show(x.c.done++[nx]).length<=1000;rw[xu]at ag;simp;omega,fun s Q=>(xaE.1 Q).elim (xk.names s) fun Q=>by rw[xaA.1 Q];exact F.names nx ah,xk.now⟩;unfold Kd.reqD;by_cases hm:(x.more nx).c.done.length=(x.more nx).u.set.length
  ·rw[if_pos hm];obtain⟨S4,v4,ac,h4,O⟩:=zl9 h3 (by have:=F.n;show 0<=K.n/\K.n<_;omega) hR ab hD (V:(x.more nx).c.client=K.u.name) (base:=c.1);refine⟨S4,{P with iv:=v4},_,?_,h4,G3.trans O,⟨id,rfl,?_,?_,?_,?_⟩⟩
   ·have J:(x.c.done++[nx]).length=x.u.set.length:=hm;generalize(x.c.done++[nx]).length=m at *;have M:((m:Int)=(x.u.set.length:Int))=True:=eq_true (by rw[J]);clear J;generalize(x.more nx).cells (.arr id 1 0 m none)=X3 at *;simp[qa,qw,f,xc,o,A,B,w,n1,g,z,w1,w2,H,C,N,zj,a1,a2,a3,X,Y,t8,t17,Z,aa,M,ac]
   ·exact(O.2.2 id a6 I).1.trans a4
   ·have:=G1.2.1;omega
   ·have:=O.2.1;omega
   ·exact(O.2.2 id a6 I).2
  ·rw[if_neg hm];have ad:(x.more nx).c.done.length<(x.more nx).u.set.length:=by have:(x.more nx).c.done.length=x.c.done.length+1:=by {show(x.c.done++[nx]).length=_;simp};have:(x.more nx).u.set.length=x.u.set.length:=rfl;omega
   obtain⟨ae,D⟩:∃ae,(x.more nx).u.set[(x.more nx).c.done.length]?=some ae:=⟨(x.more nx).u.set[(x.more nx).c.done.length],by simp[ad]⟩;simp only[D];obtain⟨S4,G,h4,O⟩:=zjj h3 (by have:=F.n;show 0<=K.n/\K.n<_;omega) F.cookies ab hD D;refine⟨S4,P,R,?_,h4,G3.trans O,rfl⟩;have J:¬(x.c.done++[nx]).length=x.u.set.length:=hm;generalize(x.c.done++[nx]).length=m at *;have M:((m:Int)=(x.u.set.length:Int))=False:=eq_false (by omega);generalize(x.more nx).cells (.arr id 1 0 m none)=X3 at *;simp[qa,qw,f,xc,o,A,B,w,n1,g,z,w1,w2,H,C,N,zj,a1,a2,a3,X,Y,t8,t17,Z,aa,M,G]
 ·have n1:(nx=⟨#[99,104,97,108,108,101,110,103,101]⟩)=False:=eq_false hc;cases ak:yR x.c.secret with
  |true=>
   rw[ak]at y;rw[zmw hi (fun h=>h.2.elim hc fun h=>by rw[ak]at h;cases h)];refine⟨S,L,R,?_,h,Chg.refl,rfl⟩;have j:∀S,call 73 [AV.i 11] S=some (AV.agg (jx 11).cells,S):=al;simp[qa,qw,f,xc,o,A,B,w,n1,y,j]
  |false=>
   rw[ak]at y;have hg:jo p=nx/\(nx=zr\/yR x.c.secret=false):=⟨w,.inr ak⟩;have am:(yH x p nx).2.1.length<=4611686018427387904:=zzE;rw[zmx hi hg];unfold Kd.reqC;generalize yH x p nx=c at *;unfold zd4 at g;by_cases f0:c.2.2=0
   case neg=>
    rw[if_neg f0];have j:=fun S=>U S c.2.2 as;by_cases f6:c.2.2=6
    ·obtain⟨S1,W,b1,g1⟩:=zsy h.b F.fails;obtain⟨h1,G1⟩:=h.upB b1 g1;rw[<-V]at W;rw[if_pos f6];refine⟨S1,L,R,?_,h1,G1,rfl⟩;rw[f6]at g j ⊢;simp[qa,qw,f,xc,o,A,B,w,n1,y,g,h.at_.users,W,j]
    ·rw[if_neg f6];refine⟨S,L,R,?_,h,Chg.refl,rfl⟩;simp[qa,qw,f,xc,o,A,B,w,n1,y,g,f0,f6,j]
   rw[if_pos f0];rw[f0]at g;have z:=fun S=>@zcD S p xp;have w1:IntKind.i64.wrap (now+100)=now+100:=w64 (by omega);have w2:IntKind.i64.wrap (now+100+1)=now+100+1:=w64 (by omega);obtain⟨S1,ids1,an,C,c1,g1⟩:=Rf.cSeen (t:=now+100+1) (now:=now) (id:=p.txt) h.c F.cache;have ao:smE (Rf.seenR K.room K.cache p.txt (now+100+1) now).1:=zna;generalize Rf.seenR K.room K.cache p.txt (now+100+1) now=q at *;obtain⟨h1,G1⟩:=h.upC c1 g1;generalize ai:({L with ids:=ids1,cv:=an}:Loc)=P at *;unfold Kd.reqS;have H:=h.at_.cch;by_cases q0:q.1=0
   case neg=>
    rw[if_neg q0];have j:=fun S=>U S q.1 ao;refine⟨S1,P,R,?_,h1,G1,rfl⟩;simp[qa,qw,f,xc,o,A,B,w,n1,y,g,z,w1,w2,H,C,q0,j]
   rw[if_pos q0];rw[q0]at C;by_cases no:nx=yg
   case neg=>
    have N:(nx=⟨#[111,116,112]⟩)=False:=eq_false no;rw[if_neg no];obtain⟨v1,au,id,S3,a1,a2,a3,a4,a5,a6,a7,a8,a9⟩:=@zka S1 x.c.done nx h1.hS xk.done;obtain⟨h3,G3⟩:=h1.same a7 a8 a9;have G3:=G1.trans G3;have I:¬yB k P id:=fun e=>by have:=h1.own_lt e;omega
    have hD:DV S3 (yB k P) (.arr id 1 0 (x.c.done++[nx]).length none) (x.more nx).c.done:=.inr ⟨id,rfl,a4,a6,I⟩;have X:List.take 8 (x.cells (zk x.c.done))++.arr id 1 0 (x.c.done++[nx]).length none::List.drop 9 (x.cells (zk x.c.done))=(x.more nx).cells (.arr id 1 0 (x.c.done++[nx]).length none):=rfl;have Y:((x.more nx).cells (.arr id 1 0 (x.c.done++[nx]).length none)).all AV.isCell=true:=Tlk.cell rfl;have t8:List.take 1 (List.drop 8 ((x.more nx).cells (.arr id 1 0 (x.c.done++[nx]).length none)))=[.arr id 1 0 (x.c.done++[nx]).length none]:=rfl;have t17:List.take 1 (List.drop 17 ((x.more nx).cells (.arr id 1 0 (x.c.done++[nx]).length none)))=[zk x.u.set]:=rfl;have Z:List.take 29 ((x.more nx).cells (.arr id 1 0 (x.c.done++[nx]).length none))=(x.more nx).cells (.arr id 1 0 (x.c.done++[nx]).length none):=rfl;have aa:((x.more nx).cells (.arr id 1 0 (x.c.done++[nx]).length none)).length=29:=rfl;have ab:(x.more nx).okk:=⟨xk.client,xk.nonce,by show(x.c.done++[nx]).length<=1000;rw[xu]at ag;simp;omega,fun s Q=>(xaE.1 Q).elim (xk.names s) fun Q=>by rw[xaA.1 Q];exact F.names nx ah,xk.now⟩;unfold Kd.reqD;by_cases hm:(x.more nx).c.done.length=(x.more nx).u.set.length
    ·rw[if_pos hm];obtain⟨S4,v4,ac,h4,O⟩:=zl9 h3 (by have:=F.n;show 0<=K.n/\K.n<_;omega) hR ab hD (V:(x.more nx).c.client=K.u.name) (base:=c.1);refine⟨S4,{P with iv:=v4},_,?_,h4,G3.trans O,⟨id,rfl,?_,?_,?_,?_⟩⟩
     ·have J:(x.c.done++[nx]).length=x.u.set.length:=hm;generalize(x.c.done++[nx]).length=m at *;have M:((m:Int)=(x.u.set.length:Int))=True:=eq_true (by rw[J]);clear J;generalize(x.more nx).cells (.arr id 1 0 m none)=X3 at *;simp[qa,qw,f,xc,o,A,B,w,n1,y,g,z,w1,w2,H,C,N,zj,a1,a2,a3,X,Y,t8,t17,Z,aa,M,ac]
     ·exact(O.2.2 id a6 I).1.trans a4
     ·have:=G1.2.1;omega
     ·have:=O.2.1;omega
     ·exact(O.2.2 id a6 I).2
    ·rw[if_neg hm];have ad:(x.more nx).c.done.length<(x.more nx).u.set.length:=by have:(x.more nx).c.done.length=x.c.done.length+1:=by {show(x.c.done++[nx]).length=_;simp};have:(x.more nx).u.set.length=x.u.set.length:=rfl;omega
     obtain⟨ae,D⟩:∃ae,(x.more nx).u.set[(x.more nx).c.done.length]?=some ae:=⟨(x.more nx).u.set[(x.more nx).c.done.length],by simp[ad]⟩;simp only[D];obtain⟨S4,G,h4,O⟩:=zjj h3 (by have:=F.n;show 0<=K.n/\K.n<_;omega) F.cookies ab hD D;refine⟨S4,P,R,?_,h4,G3.trans O,rfl⟩;have J:¬(x.c.done++[nx]).length=x.u.set.length:=hm;generalize(x.c.done++[nx]).length=m at *;have M:((m:Int)=(x.u.set.length:Int))=False:=eq_false (by omega);generalize(x.more nx).cells (.arr id 1 0 m none)=X3 at *;simp[qa,qw,f,xc,o,A,B,w,n1,y,g,z,w1,w2,H,C,N,zj,a1,a2,a3,X,Y,t8,t17,Z,aa,M,G]
   have N:(nx=⟨#[111,116,112]⟩)=True:=eq_true no;rw[if_pos no];have af:∀d rg,ze (.ld none 1 false) d rg S1 [.ptr k 0 6]=some (.ptr L.kb 0 0,none,S1):=by have:=h1.at_.users;rw[<-ai]at this;exact this
   have b1:jt S1 L.kb L.ub us i K.u:=by have:=h1.b;rw[<-ai]at this;exact this
   obtain⟨S2,E,b2,g2⟩:=zCw b1 (l:=c.2.1) am F.tok;have av:P.kb=L.kb:=by rw[<-ai]
   have aw:P.ub=L.ub:=by rw[<-ai]
   rw[<-av,<-aw]at b2 g2;obtain⟨h2,G2⟩:=h1.upB b2 g2;have G2:=G1.trans G2;rw[<-V]at E;unfold Kd.reqO;show ∃S' L' R',_=some (AV.agg (if 5<=K.u.fails then _ else _:T×Kd×Isd).1.cells,S')/\_;by_cases h5:5<=K.u.fails
   case pos=>
    rw[if_pos h5]at E h2 ⊢;have j:∀S,call 73 [AV.i 7] S=some (AV.agg (jx 7).cells,S):=fun S=>U S 7 (by simp[smE]);refine⟨S2,P,R,?_,h2,G2,rfl⟩;simp[qa,qw,f,xc,o,A,B,w,n1,y,g,z,w1,w2,H,C,N,af,E,j]
   rw[if_neg h5]at E h2 ⊢;have ax:smE (K.u.tok.accept c.2.1).2.2:=znQ;generalize K.u.tok.accept c.2.1=a at *;by_cases a0:a.2.2=0
   case neg=>
    rw[if_neg a0];have j:=fun S=>U S a.2.2 ax;refine⟨S2,P,R,?_,h2,G2,rfl⟩;simp[qa,qw,f,xc,o,A,B,w,n1,y,g,z,w1,w2,H,C,N,af,E,a0,j]
   rw[if_pos a0];rw[a0]at E;obtain⟨v1,au,id,S3,a1,a2,a3,a4,a5,a6,a7,a8,a9⟩:=@zka S2 x.c.done nx h2.hS xk.done;obtain⟨h3,G3⟩:=h2.same a7 a8 a9;have G3:=G2.trans G3;have I:¬yB k P id:=fun e=>by have:=h2.own_lt e;omega
   have hD:DV S3 (yB k P) (.arr id 1 0 (x.c.done++[nx]).length none) (x.more nx).c.done:=.inr ⟨id,rfl,a4,a6,I⟩;have X:List.take 8 (x.cells (zk x.c.done))++.arr id 1 0 (x.c.done++[nx]).length none::List.drop 9 (x.cells (zk x.c.done))=(x.more nx).cells (.arr id 1 0 (x.c.done++[nx]).length none):=rfl;have Y:((x.more nx).cells (.arr id 1 0 (x.c.done++[nx]).length none)).all AV.isCell=true:=Tlk.cell rfl;have t8:List.take 1 (List.drop 8 ((x.more nx).cells (.arr id 1 0 (x.c.done++[nx]).length none)))=[.arr id 1 0 (x.c.done++[nx]).length none]:=rfl;have t17:List.take 1 (List.drop 17 ((x.more nx).cells (.arr id 1 0 (x.c.done++[nx]).length none)))=[zk x.u.set]:=rfl;have Z:List.take 29 ((x.more nx).cells (.arr id 1 0 (x.c.done++[nx]).length none))=(x.more nx).cells (.arr id 1 0 (x.c.done++[nx]).length none):=rfl;have aa:((x.more nx).cells (.arr id 1 0 (x.c.done++[nx]).length none)).length=29:=rfl;have ab:(x.more nx).okk:=⟨xk.client,xk.nonce,by show(x.c.done++[nx]).length<=1000;rw[xu]at ag;simp;omega,fun s Q=>(xaE.1 Q).elim (xk.names s) fun Q=>by rw[xaA.1 Q];exact F.names nx ah,xk.now⟩;unfold Kd.reqD;by_cases hm:(x.more nx).c.done.length=(x.more nx).u.set.length
   ·rw[if_pos hm];obtain⟨S4,v4,ac,h4,O⟩:=zl9 h3 (by have:=F.n;show 0<=K.n/\K.n<_;omega) hR ab hD (V:(x.more nx).c.client=K.u.name) (base:=c.1);refine⟨S4,{P with iv:=v4},_,?_,h4,G3.trans O,⟨id,rfl,?_,?_,?_,?_⟩⟩
    ·have J:(x.c.done++[nx]).length=x.u.set.length:=hm;generalize(x.c.done++[nx]).length=m at *;have M:((m:Int)=(x.u.set.length:Int))=True:=eq_true (by rw[J]);clear J;generalize(x.more nx).cells (.arr id 1 0 m none)=X3 at *;simp[qa,qw,f,xc,o,A,B,w,n1,y,g,z,w1,w2,H,C,N,af,E,zj,a1,a2,a3,X,Y,t8,t17,Z,aa,M,ac]
    ·exact(O.2.2 id a6 I).1.trans a4
    ·have:=G2.2.1;omega
    ·have:=O.2.1;omega
    ·exact(O.2.2 id a6 I).2
   ·rw[if_neg hm];have ad:(x.more nx).c.done.length<(x.more nx).u.set.length:=by have:(x.more nx).c.done.length=x.c.done.length+1:=by {show(x.c.done++[nx]).length=_;simp};have:(x.more nx).u.set.length=x.u.set.length:=rfl;omega
    obtain⟨ae,D⟩:∃ae,(x.more nx).u.set[(x.more nx).c.done.length]?=some ae:=⟨(x.more nx).u.set[(x.more nx).c.done.length],by simp[ad]⟩;simp only[D];obtain⟨S4,G,h4,O⟩:=zjj h3 (by have:=F.n;show 0<=K.n/\K.n<_;omega) F.cookies ab hD D;refine⟨S4,P,R,?_,h4,G3.trans O,rfl⟩;have J:¬(x.c.done++[nx]).length=x.u.set.length:=hm;generalize(x.c.done++[nx]).length=m at *;have M:((m:Int)=(x.u.set.length:Int))=False:=eq_false (by omega);generalize(x.more nx).cells (.arr id 1 0 m none)=X3 at *;simp[qa,qw,f,xc,o,A,B,w,n1,y,g,z,w1,w2,H,C,N,af,E,zj,a1,a2,a3,X,Y,t8,t17,Z,aa,M,G]
end
theorem zjn{l:List Us}{v:AV}(f:v∈yk l){x:Nat}:¬yO v x:=by
 unfold yk at f;obtain⟨u,_,rfl⟩:=List.mem_map.1 f;rintro⟨a,b,c,d,e⟩;unfold zk lstN at e;split at e<;>cases e
def znI(S:AS)(l:List Us)(r:Option (AV×AS)):Prop:=∃S' d,r=some (.tup [.ptr S.n 0 0,.i 0],S')/\(∀u,l[0]?=some u->jC S' S.n d l (yk l) 0 u)/\Chg S S' (fun _=>False) (qD S.n d (yk l))
def zf1:List Nat:=[2,3,6,7,8,17,18,19,20,21,22,23,24,25,26,27,28,29,30,31,32,33,34,35,36,37,38,39,40,41,42,43,44]
structure UsL(l:List Us):Prop where
 ok:∀u∈l,u.okk
 cnt:∀u∈l,qK u.set qC=u.set.length
 ds:∀(i j:Nat) (u v:Us),l[i]?=some u->l[j]?=some v->u.name=v.name->i=j
 ne:l≠[]
 sz:l.length<=32
section
variable{S:AS}{l:List Us}
theorem zBw{f:Bool}(h:UsL l)(ai:S.ro<=S.n):znI S l (call 313 [.lst 15 f (l.map Us.row)] S):=by
 have hl:=h.sz;have D:∀u∈l,u.set.length<=1000:=fun u y=>by have:=(h.ok u y).2.1.2;omega
 rw[z8 zw3 (by simp) rfl];obtain⟨S1,o⟩:∃S1,S1=S.new (.rows 1 [[.lst 0 true []]]):=⟨_,rfl⟩;have G:=@zsc l f;have U:¬(32:Int)<(l.length:Int):=by omega
 simp only[zhI];simp[zp9,vc,ze,G,U];rw[<-o];refine zdI (α:=Nat) (R:=fun _ r=>znI S l r) (fun q e rg S'=>q<=l.length/\NQ zf1 [6,7] e/\e 14=.lst 15 f (l.map Us.row)/\e 4=.ptr S.n 0 0/\e 15=.sc (.int .i64 (l.length:Nat))/\e 16=.sc (.int .i64 (q:Nat))/\
  ∃v,S'.heap S.n=some (.rows 1 [[v]])/\GV S' 15 v ((l.take q).map Us.row)/\¬yO v S.n/\S'.ro=S.ro/\S.n<S'.n/\∀x,x<S.n->S'.heap x=S.heap x/\¬yO v x) (fun q=>l.length-q) (fun _ _ _ _ h=>h.2.1) ?_ 0 _ _ _ ?_
 rotate_left
 ·refine⟨by omega,?_,by simp,by simp,by simp,by simp,.lst 0 true [],by rw[o];exact jX,.inl ⟨by simp,rfl⟩,?_,by rw[o];rfl,by rw[o];exact xay _,fun x z=>⟨by rw[o];exact if_neg (by omega),?_⟩⟩
  ·repeat (first|exact zan rfl|refine vC ?_ (by simp[zf1])|refine NQ_fgt2 ?_)
  ·rintro⟨a,b,c,d,e⟩;cases e
  ·rintro⟨a,b,c,d,e⟩;cases e
 intro kk V q e rg S' ⟨hi,W,h0,X,E,H,v,m,I,s,hr,J,z⟩ ih;have M:S'.ro<=S'.n:=by omega
 by_cases hc:q<l.length
 ·obtain⟨u,y⟩:=yV hc;have F:=xaj y;have Y:(q:Int)<(l.length:Int):=by omega
  have w2:IntKind.i64.wrap ((q:Int)+1)=((q+1:Nat):Int):=w64 (by omega);have Z:=@zu6 l f q u y;have e1:=zAN (n:=u.name) m I (by rw[List.length_take];omega) (fun w hw=>D w (List.mem_of_mem_take hw)) fun w hw aa=>by
   obtain⟨j,T⟩:=List.mem_iff_getElem?.1 hw;rw[xaq]at T;split at T
   ·rename_i aj;have:=h.ds j q w u T y aa;omega
   ·cases T
  have N:=fun S=>@zJo S u (h.ok u F) (h.cnt u F);have A:=fun S=>@zmX S (zk u.set) u (.inl rfl) (by have:=D u F;omega);rw[zHS]at A;have r0:u.row.take 1=[.sc (.string u.name)]:=rfl;have ab:=@Us.row_cell u;have ac:=@Us.row_len u;have hk:=@Us.take u;have zc:=@Us.row_cell zU;have zl:=@Us.row_len zU;obtain⟨v',S2,ha,p,c1,c2,O⟩:=I.app M (r:=u.row) (bytes:=192) (f:=true) (by rw[xaH,List.length_take];omega);have ad:S2.heap S.n=some (.rows 1 [[v]]):=(O S.n J s).1.trans m;have ae:=p.cells;have t:=p.cell;have af:∀d rg,ze (.st none 1) d rg S2 [.ptr S.n 0 0,v']=some (.junk,none,S2.set S.n (some (.rows 1 [[v']]))):=fun d rg=>by
   simp only[ze,ad,ae];rw[if_pos ⟨by omega,by simp[t],rfl⟩];rfl
  have ag:∀d rg,ze (.ld none 1 false) d rg S' [.ptr S.n 0 0]=some (v,none,S'):=fun d rg=>by rw[zY m];rfl
  have P:=I.reg;have B:=p.reg;rw[<-List.map_singleton,<-List.map_append,show l.take q++[u]=l.take (q+1)by rw[xav,y];rfl]at p;generalize u.row=r at *;generalize zU.row=rz at *;simp[zf1,zlb,h0,X,E,H,Y,hc,Z,r0,ab,ac,hk,zc,zl,e1,N,A,ag,ha,af,w2,P,B,zj];refine ih (q+1) _ _ _ (by omega) (fun _ h=>h) ⟨by omega,?_,by simp[h0],by simp[X],by simp[E],by simp,v',if_pos rfl,?_,(O S.n J s).2,c1.trans hr,xan J c2,fun x g=>⟨?_,?_⟩⟩
  ·repeat (first|exact W|exact zvm W|exact zcM W|refine vC ?_ (by simp[zf1,P,B])|refine NQ_fgt2 ?_)
  ·exact p.keep rfl (xad _) fun x _ ha=>if_neg fun e:x=S.n=>(O S.n J s).2 (by rw[<-e];exact ha)
  ·exact(if_neg (by omega)).trans ((O x (by omega) (z x g).2).1.trans (z x g).1)
  ·exact(O x (by omega) (z x g).2).2
 ·have ah:q=l.length:=by omega
  subst ah;rw[xax]at I;simp[zf1,zlb,E,H];rw[V];simp[X];rcases I with⟨C,_⟩|⟨id,rfl,h2,h3,h6⟩
  ·simp at C;exact absurd C h.ne
  ·rw[xaH]at m;have Q:S.n≠id:=fun e=>s ⟨_,_,_,_,by rw[e]⟩;refine⟨_,id,rfl,fun u y=>⟨zlM m h2 (by omega) D y (fun j v _ h=>by omega),by omega,h3,J,h6,Q,fun v m=>⟨zjn m,zjn m⟩,fun v m x z=>absurd z (zjn m)⟩,hr,by omega,fun x g _=>⟨(z x g).1,?_⟩⟩;rintro(e|e|⟨v,m,e⟩)
   ·omega
   ·subst e;exact(z _ g).2 ⟨_,_,_,_,rfl⟩
   ·exact absurd e (zjn m)
end
section
variable{us:List Us}{sv:List AV}{i:Nat}{S:AS}{k:Nat}{L:Lop}{K:Kd}{R:List (List AV)}
theorem zHC:Rp.RelP [] []:=⟨List.Perm.refl _,.nil⟩
end
section
variable{S:AS}{l:List Us}
def zd7(key cookies:T)(kb:Nat)(room:Int):List AV:=[.sc (.int .i64 key.kind),.sc (.string key.name),zh key.kids,.sc (.int .i64 cookies.kind),.sc (.string cookies.name),zh cookies.kids,.ptr kb 0 0,.sc (.int .i64 room),.sc (.pointer none),.i 0,.lst 0 true []]
theorem zy5{key cookies:T}{kb:Nat}{room:Int}:pev (.build [.i (0),.s ⟨#[]⟩,.lst 0 true [],.i (0),.s ⟨#[]⟩,.lst 0 true [],.sc (.pointer none),.i (0),.sc (.pointer none),.i (0),.lst 0 true []] [(0,3),(3,3),(6,1),(7,1)])
 [.agg key.cells,.agg cookies.cells,.ptr kb 0 0,.sc (.int .i64 room)]=some (.agg (zd7 key cookies kb room)):=by
 rw[zq key,zq cookies];simp;rfl
theorem zBr{key cookies:T}{room:Int}{f:Bool}{u:Us}(h:UsL l)(W:l[0]?=some u)(X:0<=room/\room<=64)(B:S.ro<=S.n):
 ∃S' k L,call 205 [.agg key.cells,.agg cookies.cells,.lst 15 f (l.map Us.row),.sc (.int .i64 room)] S=some (.tup [.ptr k 0 0,.i 0],S')/\yu l (yk l) 0 S' k L ⟨key,cookies,u,room,[],0⟩ []/\Chg S S' (fun _=>False) (yn k L (yk l)):=by
 rw[z8 zv7 (by simp) rfl];obtain⟨j,N,Y,Z,q⟩:=zBw (f:=f) h B;have A:=Z u W;have aa:=A.l1;have ab:=A.l2;have ac:=q.2.1;obtain⟨g,o⟩:∃g,g=j.new (.rows 11 [zd7 key cookies S.n room]):=⟨_,rfl⟩;have n2:g.n=j.n+1:=by rw[o];rfl
 have r2:g.ro=j.ro:=by rw[o];rfl
 have O:∀x,x<j.n->g.heap x=j.heap x:=fun x p=>by rw[o];exact if_neg (by omega)
 have r:g.heap j.n=some (.rows 11 [zd7 key cookies S.n room]):=by rw[o];exact jX
 have C:∀d rg,ze (.box .heap) d rg j [.agg (zd7 key cookies S.n room)]=some (.ptr j.n 0 0,none,g):=fun d rg=>by rw[o];rfl
 have P:j.ro<=j.n:=by have:=q.1;omega
 have D:=Rp.new_spec zry (S:=g) (room:=room);have Q:=Rp.newR_C (S:=g) (room:=room) (by omega);have s:max room 0=room:=by omega
 rw[s]at Q;have n3:(Rp.newR g room).n=g.n+2:=rfl;have r3:(Rp.newR g room).ro=g.ro:=rfl;have E:∀x,x<g.n->(Rp.newR g room).heap x=g.heap x:=fun x p=>by
  show(if x=g.n+1 then _ else if x=g.n then _ else g.heap x)=_;rw[if_neg (by omega),if_neg (by omega)]
 have t:call 50 [.sc (.int .i64 room)] g=some (.ptr (g.n+1) 0 0,Rp.newR g room):=D;generalize Rp.newR g room=m at *;have F:m.heap j.n=some (.rows 11 [zd7 key cookies S.n room]):=(E _ (by omega)).trans r;have G:∀d rg,ze (.st none 1) d rg m [.ptr j.n 0 8,.ptr (g.n+1) 0 0]=some (.junk,none,m.set j.n (some (.rows 11 [(Kd.mk key cookies u room [] 0).row S.n (g.n+1) (.lst 0 true [])]))):=fun d rg=>by
  simp only[ze,F,AV.cells];rw[if_pos ⟨by omega,rfl,rfl⟩];rfl
 have H:∀d rg,ze (.ld none 1 false) d rg g [.ptr j.n 0 7]=some (.sc (.int .i64 room),none,g):=fun d rg=>by rw[zY r];rfl
 have w:call 169 [.ptr j.n 0 0] g=some (.tup [],m.set j.n (some (.rows 11 [(Kd.mk key cookies u room [] 0).row S.n (g.n+1) (.lst 0 true [])]))):=by
  rw[z8 zvW (by simp) rfl];simp[f169,zpu,H,t,G]
 have y:∀x,¬yO (.lst 0 true []) x:=by rintro x ⟨a,b,c,d,e⟩;cases e
 have I:∀x,qD S.n N (yk l) x->x<j.n:=fun x p=>A.lts p;have U:∀x,x<g.n->¬kH (g.n+1) g.n x:=by rintro x p (e|e)<;>omega
 refine⟨m.set j.n (some (.rows 11 [(Kd.mk key cookies u room [] 0).row S.n (g.n+1) (.lst 0 true [])])),j.n,⟨S.n,N,g.n+1,g.n,[],.lst 0 true []⟩,?_,⟨if_pos rfl,?_,?_,zHC,.inl ⟨rfl,rfl⟩,?_,?_,?_,?_,y _⟩,?_⟩
 ·have J:¬room<0:=by omega
  have M:¬(64:Int)<room:=by omega
  have z:=@zy5 key cookies S.n room;generalize zd7 key cookies S.n room=r0 at *;generalize m.set j.n _=S4 at *;simp[-jl,f205,zpB,zj,Y,J,M,z,C,w]
 ·exact A.keep (S':=m.set j.n _) (by show m.ro=j.ro;omega) (by show j.n<=m.n;omega) fun x p V=>(if_neg (by omega)).trans ((E x (by omega)).trans (O x p))
 ·exact Q.keep rfl (xad _) fun x _ V=>if_neg (by rcases V with e|e<;>omega)
 ·show m.ro<=j.n;omega
 ·show j.n<m.n;omega
 ·intro x p;have:=I x p;exact⟨by omega,U x (by omega),y x⟩
 ·rintro x (e|e)
  ·have e:x=g.n+1:=e;exact⟨by omega,y x⟩
  ·have e:x=g.n:=e;exact⟨by omega,y x⟩
 ·refine⟨by show m.ro=S.ro;rw[r3,r2];exact q.1,by show S.n<=m.n;omega,fun x p _=>⟨?_,?_⟩⟩
  ·exact(if_neg (by omega)).trans ((E x (by omega)).trans ((O x (by omega)).trans (q.2.2 x p fun e=>e).1))
  ·rintro(e|e|e|e)
   ·omega
   ·exact(q.2.2 x p fun e=>e).2 e
   ·exact U x (by omega) e
   ·exact y x e
end
theorem zy9{key cookies:T}{kb e:Nat}{room:Int}{u:Us}{d:List (ByteArray×Int)}:pev (.build [.i (0),.s ⟨#[]⟩,.lst 0 true [],.i (0),.s ⟨#[]⟩,.lst 0 true [],.sc (.pointer none),.i (0),.sc (.pointer none),.i (0),.lst 0 true []] [(0,3),(3,3),(6,1),(7,1),(8,1)])
 [.agg key.cells,.agg cookies.cells,.ptr kb 0 0,.sc (.int .i64 room),.ptr e 0 0]=some (.agg ((Kd.mk key cookies u room d 0).row kb e (.lst 0 true []))):=by
 rw[zq key,zq cookies];simp;rfl
section
variable{S:AS}{l:List Us}
theorem zCv{key cookies:T}{room:Int}{f:Bool}{u:Us}(t:∀u∈l,u.okk)(Q:∀(i j:Nat) (u v:Us),l[i]?=some u->l[j]?=some v->u.name=v.name->i=j)(U:l.length<=32)(w:l[0]?=some u)(V:0<=room/\room<=64)(y:S.ro<=S.n):
 ∃S' k L,call 235 [.agg key.cells,.agg cookies.cells,.lst 15 f (l.map Us.row),.sc (.int .i64 room)] S=some (.tup [.ptr k 0 0,.i 0],S')/\yE l 0 S' k L ⟨key,cookies,u,room,[],0⟩ []/\Chg S S' (fun _=>False) (yB k L):=by
 rw[z8 zwi (by simp) rfl];have z:l≠[]:=fun e=>by rw[e]at w;cases w
 obtain⟨h,s,W,A,p⟩:=zCx (f:=f) t Q z U y;have B:=A u w;have C:h.ro<=h.n:=by have:=p.1;have:=p.2.1;omega
 obtain⟨g,X,D,m⟩:=Rf.cNew (S:=h) (room:=room) C;have q:max room 0=room:=by omega
 rw[q]at D;have E:=fun kb F=>@zy9 key cookies kb F room u [];have G:∀d rg,ze (.box .heap) d rg g [.agg ((Kd.mk key cookies u room [] 0).row S.n h.n (.lst 0 true []))]=some (.ptr g.n 0 0,none,g.new (.rows 11 [(Kd.mk key cookies u room [] 0).row S.n h.n (.lst 0 true [])])):=fun d rg=>rfl;have H:=B.l1;have I:=B.l2;have hw:=D.lt;have Y:=p.2.1;have Z:=m.2.1;have J:jt g S.n s l 0 u:=B.keep m.1 m.2.1 fun x o _=>(m.2.2 x o (fun e=>e)).1;have P:∀x,x<h.n->¬Rf.ownR h.n [] x:=by
  rintro x o (e|e)
  ·omega
  ·cases e
 have M:∀x,¬yO (.lst 0 true []) x:=by
  rintro x ⟨a,b,c,d,e⟩;cases e
 refine⟨g.new (.rows 11 [(Kd.mk key cookies u room [] 0).row S.n h.n (.lst 0 true [])]),g.n,⟨S.n,s,h.n,[],.lst 0 true [],.lst 0 true []⟩,?_,⟨jX,?_,?_,.inl ⟨rfl,rfl⟩,?_,xay _,?_,?_,?_⟩,?_⟩
 ·have E:=E S.n h.n;have N:¬room<0:=by omega
  have O:¬(64:Int)<room:=by omega
  generalize(Kd.mk key cookies u room [] 0).row S.n h.n (.lst 0 true [])=r at *;simp[-jl,f235,zpK,W,X,E,G,N,O]
 ·exact J.keep rfl (Nat.le_succ _) fun x o _=>if_neg (by omega)
 ·exact D.keep rfl (Nat.le_succ _) fun x o _=>if_neg (by omega)
 ·show g.ro<=g.n;have:=m.1;omega
 ·rintro x (e|e)
  ·have e:x=S.n:=e;subst e;exact⟨fun e=>by have e:S.n=g.n:=e;omega,P _ H,M _⟩
  ·have e:x=s:=e;subst e;exact⟨fun e=>by have e:x=g.n:=e;omega,P _ I,M _⟩
 ·rintro x (rfl|e)
  ·exact⟨fun e=>by have e:h.n=g.n:=e;omega,M _⟩
  ·cases e
 ·rintro⟨a,b,c,d,e⟩;cases e
 ·refine⟨m.1.trans p.1,by show S.n<=g.n+1;omega,fun x o _=>⟨?_,?_⟩⟩
  ·rw[show(g.new _).heap x=g.heap x from if_neg (by omega),(m.2.2 x (by omega) (fun e=>e)).1];exact(p.2.2 x o (fun e=>e)).1
  ·rintro(e|(e|e)|(e|e)|⟨a,b,c,d,e⟩)
   ·omega
   ·have e:x=S.n:=e;omega
   ·have e:x=s:=e;exact(p.2.2 x o (fun e=>e)).2 (.inr e)
   ·have e:x=h.n:=e;omega
   ·cases e
   ·cases e
end
section
variable{us:List Us}{i:Nat}{S:AS}{k:Nat}{L:Loc}{K:Kd}{R:List (List AV)}
end
def pwN(n:ByteArray):ByteArray:=⟨#[112,97,115,115,119,111,114,100,32]⟩++n
def sdN(n:ByteArray):ByteArray:=⟨#[115,101,101,100,32]⟩++n
def usr(n:ByteArray)(set:List ByteArray):Us:=⟨n,zak (zB (pwN n)) n,set,zB (sdN n),⟨0,3,10,0,0,5⟩,0⟩
def nbB:ByteArray:=⟨#[98]⟩
structure kN(l:List ByteArray):Prop where
 l1:1<=l.length
 l3:l.length<=3
 im:∀s∈l,isM s
 ij:∀(i k:Nat) (s:ByteArray),l[i]?=some s->l[k]?=some s->i=k
 cn:qK l qC=l.length
theorem zlL{j:Nat}:kN (zah j):=by
 obtain⟨d,e,f,g⟩:=@zJL j;refine⟨d,e,f,g,?_⟩
 match j with
 |0|1|2|3|4|5|6=>decide
 |_+7=>show qK [yo,yg,zr] qC=3;decide
theorem ziX:kN [zr]:=zlL (j:=0)
theorem zAR:kN [yg]:=zlL (j:=1)
section
variable{S:AS}
theorem zfQ{s:ByteArray}:call 174 [.sc (.string s)] S=some (.agg (zB s).cells,S):=by
 rw[zi zvZ rfl (by simp) rfl];simp[zg2,zpx]
theorem zIH{n:Int}:call 165 [.sc (.int .i64 n)] S=some (zk (zah (n%8).toNat),S):=by
 rw[zi zvU rfl (by simp) rfl];have s:0<=n%8/\n%8<8:=⟨Int.emod_nonneg _ (by omega),Int.emod_lt_of_pos _ (by omega)⟩;have r:n%8=0\/n%8=1\/n%8=2\/n%8=3\/n%8=4\/n%8=5\/n%8=6\/n%8=7:=by omega
 rcases r with h|h|h|h|h|h|h|h
 ·have q:∀d e f g j m o p:AV,pev (.iaddr 1) [.lst 1 true [[d],[e],[f],[g],[j],[m],[o],[p]],.i 0]=some (.iptr [d]):=by intros;simp[pev]
  rw[h];simp[f165,zaA,h,q,zj];rfl
 ·have q:∀d e f g j m o p:AV,pev (.iaddr 1) [.lst 1 true [[d],[e],[f],[g],[j],[m],[o],[p]],.i 1]=some (.iptr [e]):=by intros;simp[pev]
  rw[h];simp[f165,zaA,h,q,zj];rfl
 ·have q:∀d e f g j m o p:AV,pev (.iaddr 1) [.lst 1 true [[d],[e],[f],[g],[j],[m],[o],[p]],.i 2]=some (.iptr [f]):=by intros;simp[pev]
  rw[h];simp[f165,zaA,h,q,zj];rfl
 ·have q:∀d e f g j m o p:AV,pev (.iaddr 1) [.lst 1 true [[d],[e],[f],[g],[j],[m],[o],[p]],.i 3]=some (.iptr [g]):=by intros;simp[pev]
  rw[h];simp[f165,zaA,h,q,zj];rfl
 ·have q:∀d e f g j m o p:AV,pev (.iaddr 1) [.lst 1 true [[d],[e],[f],[g],[j],[m],[o],[p]],.i 4]=some (.iptr [j]):=by intros;simp[pev]
  rw[h];simp[f165,zaA,h,q,zj];rfl
 ·have q:∀d e f g j m o p:AV,pev (.iaddr 1) [.lst 1 true [[d],[e],[f],[g],[j],[m],[o],[p]],.i 5]=some (.iptr [m]):=by intros;simp[pev]
  rw[h];simp[f165,zaA,h,q,zj];rfl
 ·have q:∀d e f g j m o p:AV,pev (.iaddr 1) [.lst 1 true [[d],[e],[f],[g],[j],[m],[o],[p]],.i 6]=some (.iptr [o]):=by intros;simp[pev]
  rw[h];simp[f165,zaA,h,q,zj];rfl
 ·have q:∀d e f g j m o p:AV,pev (.iaddr 1) [.lst 1 true [[d],[e],[f],[g],[j],[m],[o],[p]],.i 7]=some (.iptr [p]):=by intros;simp[pev]
  rw[h];simp[f165,zaA,h,q,zj];rfl
theorem zy3:pev (.build [.i (0),.i (0),.i (0),.i (0),.i (0),.i (0)] [(1,1),(2,1),(5,1)]) [.i 3,.i 10,.i 5]=some (.agg [.i 0,.i 3,.i 10,.i 0,.i 0,.i 5]):=by simp
theorem zy4{n:ByteArray}{set:List ByteArray}:pev (.build [.s ⟨#[]⟩,.i (0),.s ⟨#[]⟩,.lst 0 true [],.lst 0 true [],.i (0),.s ⟨#[]⟩,.lst 0 true [],.i (0),.i (0),.i (0),.i (0),.i (0),.i (0),.i (0)] [(0,1),(1,3),(4,1),(5,3),(8,6)])
 [.sc (.string n),.agg (zak (zB (pwN n)) n).cells,zk set,.agg (zB (sdN n)).cells,.agg [.i 0,.i 3,.i 10,.i 0,.i 0,.i 5]]=some (.agg (usr n set).row):=by
 rw[zq (zak (zB (pwN n)) n),zq (zB (sdN n))];simp;rfl
theorem zuf{n:ByteArray}{x:AV}{set:List ByteArray}(j:x.nrm=zk set)(m:x.isReg=false)(y:n.size<=1000):call 279 [.sc (.string n),x] S=some (.agg (usr n set).row,S):=by
 rw[kr zwM (args':=[.sc (.string n),zk set]) (by simp[m]) (by simp[j]) rfl];have e:=fun S s=>@zfQ S s;have f:=fun S=>@zt4 S (zB (pwN n)) n (by omega);have o:pev (.bin .add) [.s ⟨#[112,97,115,115,119,111,114,100,32]⟩,.sc (.string n)]=some (.sc (.string (pwN n))):=yz (by show 9+_<=_;omega);have p:pev (.bin .add) [.s ⟨#[115,101,101,100,32]⟩,.sc (.string n)]=some (.sc (.string (sdN n))):=yz (by show 5+_<=_;omega);have g:=zy3;have h:=@zy4 n set;have q:=@Us.row_cell (usr n set);have t:=@Us.row_len (usr n set);have u:=@Us.take (usr n set);have w:=fun S b d=>@Us.frz S b d (usr n set);have hp:=@Us.pure (usr n set);generalize(usr n set).row=r at *;simp[-jl,f279,zp0,o,p,e,f,g,h,q,t,u,w,hp,zj]
def qQ(d e:List ByteArray):List Us:=[usr naB d,usr nbB e]
theorem zu8{n:ByteArray}{set:List ByteArray}(h:kN set)(d:n≠⟨#[]⟩):(usr n set).okk:=
 ⟨d,⟨h.l1,h.l3⟩,by show 0<=(0:Int)/\(0:Int)<=_;omega,rfl,h.im,h.ij⟩
theorem zKo{m n:List ByteArray}(o:kN m)(p:kN n):UsL (qQ m n):=by
 have g:naB≠nbB:=by decide
 refine⟨fun u h=>?_,fun u h=>?_,fun i j u v d f e=>?_,by simp[qQ],by simp[qQ]⟩
 ·simp only[qQ,xaz,List.not_mem_nil,or_false]at h;rcases h with rfl|rfl
  ·exact zu8 o (by decide)
  ·exact zu8 p (by decide)
 ·simp only[qQ,xaz,List.not_mem_nil,or_false]at h;rcases h with rfl|rfl
  ·exact o.cn
  ·exact p.cn
 ·match i,j,d,f with
  |0,0,_,_=>rfl
  |1,1,_,_=>rfl
  |0,1,d,f=>cases d;cases f;exact absurd e g
  |1,0,d,f=>cases d;cases f;exact absurd e.symm g
  |_+2,_,d,_=>simp[qQ]at d
  |_,_+2,_,f=>simp[qQ]at f
def kdU(d:List ByteArray)(room:Int):Kd:=⟨zB kc,zB vH,usr naB d,room,[],0⟩
theorem zr0{x y:AV}{d g:List ByteArray}{room:Int}(T:kN d)(U:kN g)(V:x.nrm=zk d)(p:x.isReg=false)(W:y.nrm=zk g)(q:y.isReg=false)(A:0<=room/\room<=64)(D:S.ro<=S.n):
 ∃S' r t kb B,call 164 [x,y,.sc (.int .i64 room)] S=some (.tup [.ptr r 0 0,.ptr kb 0 0,.b true],S')/\yu (qQ d g) (yk (qQ d g)) 0 S' r t (kdU d room) []/\yE (qQ d g) 0 S' kb B (kdU d room) []/\
  (∀z,yn r t (yk (qQ d g)) z->¬yB kb B z)/\Chg S S' (fun _=>False) (fun z=>yn r t (yk (qQ d g)) z\/yB kb B z):=by
 rw[z8 a164 (by simp[p,q]) rfl];have ok:=zKo T U;have C:=fun S s=>@zfQ S s;have h:=fun S=>@zuf S naB x d V p (by show 1<=_;omega);have j:=fun S=>@zuf S nbB y g W q (by show 1<=_;omega);unfold naB at h;unfold nbB at j;obtain⟨E,r,t,F,G,w⟩:=zBr (S:=S) (key:=zB kc) (cookies:=zB vH) (room:=room) (f:=true) (u:=usr naB d) ok rfl A D;have H:E.ro<=E.n:=G.hS;obtain⟨Q,kb,B,I,X,m⟩:=zCv (S:=E) (key:=zB kc) (cookies:=zB vH) (room:=room) (f:=true) (u:=usr naB d) ok.ok ok.ds ok.sz rfl A H;have J:yu (qQ d g) (yk (qQ d g)) 0 Q r t (kdU d room) []:=G.keep m.1 m.2.1 fun z o _=>(m.2.2 z o fun e=>e).1;unfold kc vH at F I;refine⟨Q,r,t,kb,B,?_,J,X,fun z o=>(m.2.2 z (G.own_lt o) fun e=>e).2,m.1.trans w.1,xaD w.2.1 m.2.1,fun z o _=>⟨?_,?_⟩⟩
 ·have M:=@Us.row_cell (usr ⟨#[97]⟩ d);have N:=@Us.row_len (usr ⟨#[97]⟩ d);have O:=@Us.row_cell (usr ⟨#[98]⟩ g);have P:=@Us.row_len (usr ⟨#[98]⟩ g);have Y:(qQ d g).map Us.row=[(usr ⟨#[97]⟩ d).row,(usr ⟨#[98]⟩ g).row]:=rfl;rw[Y]at F I;generalize(usr ⟨#[97]⟩ d).row=Z at *;generalize(usr ⟨#[98]⟩ g).row=r2 at *;simp[zg0,zps,C,h,j,p,q,M,N,O,P,F,I]
 ·exact(m.2.2 z (xan o w.2.1) fun e=>e).1.trans (w.2.2 z o fun e=>e).1
 ·rintro(e|e)
  ·exact(w.2.2 z o fun e=>e).2 e
  ·exact(m.2.2 z (xan o w.2.1) fun e=>e).2 e
end
structure Kd.sz(K:Kd)(b:Nat):Prop where
 cookies:K.cookies.lo
 set1:1<=K.u.set.length
 set2:K.u.set.length<=1000
 names:∀s∈K.u.set,s.size<=1099511627776
 name:K.u.name.size<=1099511627776
 tok:K.u.tok.fails<=(b:Int)
 fails:0<=K.u.fails/\K.u.fails<=(b:Int)
 n:0<=K.n/\K.n<=(b:Int)
 cache:K.cache.length<=b
structure Cl.sz(c:Cl)(b:Nat):Prop where
 z1:c.on=true->c.z1=false
 z1d:c.done=true->c.z1=false
 z2:c.done=true->c.z2=false
 z3:c.ended=true->c.z3=false
 nonce:c.nonce.size<=1099511627776
 name:c.name.size<=1099511627776
 counter:0<=c.counter/\c.counter<=(b:Int)
 marks:c.marks.length<=b
structure Pr(S:AS)(a:Nat)(c:Cl)(mv:AV)(k:Nat)(L:Loc)(K:Kd)(R:List (List AV))(b:Nat):Prop where
 cl:znH S a c mv
 kd:zvh S k L K R
 dj:∀x,zGi a mv x->¬yB k L x
 cs:c.sz b
 ks:K.sz b
 r:R.length<=b
section
variable{S:AS}{a:Nat}{c:Cl}{mv:AV}{k:Nat}{L:Loc}{K:Kd}{R:List (List AV)}{b:Nat}
theorem wq.len{S S':AS}{o:Nat->Prop}{R d:List (List AV)}{i:Isd}(h:wq S S' o R d i):d.length<=R.length+1:=by
 unfold wq at h;split at h
 ·rw[h];omega
 ·obtain⟨id,e,_⟩:=h;rw[e];simp
end
theorem zvm{tm tm' rgs:List Nat}{e:Nat->AV}(h:NQ tm rgs e):NQ tm rgs (fgt tm' e):=by
 intro n;have:=h n;rw[zlC];split
 ·rw[Bool.or_eq_true];right;rfl
 ·exact this
section
variable{S:AS}{v:AV}
inductive zKN(t:T):Prop
 |no (h:zkB t=none) (lk:∀(S:AS) (w:Nat),S.heap w=some (.map W0)->∀d rg,ze (.lookup false (.agg [.sc .nilFunc,.sc .nilFunc]) true) d rg S [.mp w,.sc (.int .i64 t.kind)]=some (.tup [.agg [.sc .nilFunc,.sc .nilFunc],.sc (.bool false)],none,S))
 |yes (k1 k2:Nat) (n g:List T) (z1 z2:Nat) (f1 f2:Bool) (h:zkB t=some (n,g)) (lk:∀(S:AS) (w:Nat),S.heap w=some (.map W0)->∀d rg,ze (.lookup false (.agg [.sc .nilFunc,.sc .nilFunc]) true) d rg S [.mp w,.sc (.int .i64 t.kind)]=some (.tup [.agg [.fn k1 [] [],.fn k2 [] []],.sc (.bool true)],none,S))
  (c1:∀S,call k1 [.agg t.cells] S=some (.lst z1 f1 (n.map T.cells),S)) (c2:∀S,call k2 [.agg t.cells] S=some (.lst z2 f2 (g.map T.cells),S)) (q1:n≠[]->z1=3) (q2:g≠[]->z2=3)
structure RdW(S:AS)(kid i j w:Nat)(L:List T)(M:List (ByteArray×Bool))(v:AV):Prop where
 kn:KN S kid i j L M v
 hw:S.heap w=some (.map W0)
 lw:w<S.n
 nw:¬zf8 kid i j v w
 lo:∀x,x<i->¬zf8 kid i j v x
theorem flat_take{α β:Type}{f:α->List β}{l:List α}{q:Nat}{t:α}(h:l[q]?=some t):(l.take (q+1)).flatMap f=(l.take q).flatMap f++f t:=by
 rw[xav,h];simp
end
abbrev N8(e:Nat->AV):Prop:=NQ [8,9,10,34,35,36,37,38,39,40,41,42,43,44,45,46,47,48,49,50,51,52,53,54,55,56,57,58,59] [8,9] e
abbrev N12(e:Nat->AV):Prop:=NQ [12,63,64,65,66,67,68,69] [12] e
abbrev NA(e:Nat->AV):Prop:=NQ [6,8,9,10,12,16,17,18,19,20,21,22,23,24,25,26,27,28,29,30,31,32,33,34,35,36,37,38,39,40,41,42,43,44,45,46,47,48,49,50,51,52,53,54,55,56,57,58,59,60,61,62,63,64,65,66,67,68,69] [8,9,12] e
structure AnP(frame U L:List T):Prop where
 nodup:L.Nodup
 has:∀t∈frame,t∈L
 sub:∀t∈L,t∈U
 least:∀Q:List T,(∀t∈frame,t∈Q)->(∀t∈Q,∀u∈zl8 Q t,u∈Q)->∀t∈L,t∈Q
structure UOk(U:List T):Prop where
 tidy:∀t∈U,t.tidy
 kids:∀t∈U,∀u∈t.kids,u∈U
 len:U.length<=1000000
 klen:∀t∈U,t.kids.length<=100000
section
variable{S:AS}
end
structure zKK(frame U L:List T):Prop where
 has:∀t∈frame,t∈L
 sub:∀t∈L,t∈U
 least:∀Q:List T,(∀t∈frame,t∈Q)->(∀t∈Q,∀u∈zl8 Q t,u∈Q)->∀t∈L,t∈Q
 closed:∀t∈L,∀u∈zl8 L t,u∈L
section
variable{S:AS}
end
section
variable{S:AS}
end
structure VC where
 k1:Nat
 i1:Nat
 j1:Nat
 v1:AV
 L1:List T
 k2:Nat
 i2:Nat
 j2:Nat
 v2:AV
 L2:List T
 m:Nat
 TH:List T
structure Vw(c:VC)(S:AS):Prop where
 ex:∃M1 M2,KN S c.k1 c.i1 c.j1 c.L1 M1 c.v1/\KN S c.k2 c.i2 c.j2 c.L2 M2 c.v2
 ap:∀x,zf8 c.k1 c.i1 c.j1 c.v1 x->¬zf8 c.k2 c.i2 c.j2 c.v2 x
 hm:S.heap c.m=some (.map (zkI c.TH))
 m1:c.m≠c.j1
 m2:c.m≠c.j2
 lm:c.m<S.n
 th:∀u∈c.TH,u.rshp=true
def Rl(c:VC)(S S':AS):Prop:=S'.ro=S.ro/\S.n<=S'.n/\∀x,x<S.n->x≠c.j1->x≠c.j2->S'.heap x=S.heap x
def VQ(c:VC)(S S':AS):Prop:=Vw c S'/\Rl c S S'
section
variable{c:VC}{S:AS}
structure RW where
 z:Nat
 f:Bool
 l:List T
def RW.v(r:RW):AV:=.lst r.z r.f (r.l.map T.cells)
structure RW.ok(r:RW):Prop where
 z:r.l≠[]->r.z=3
 len:r.l.length<=4611686018427387904
 tidy:∀t∈r.l,t.tidy
@[simp] theorem RW.reg{r:RW}:r.v.isReg=false:=rfl
@[simp] theorem RW.cell{r:RW}:r.v.isCell=true:=rfl
def vcV(c:VC):AV:=.iptr [.ptr c.k1 0 0,.ptr c.k2 0 0,.mp c.m]
@[simp] theorem zO6:(vcV c).isReg=false:=rfl
end
section
variable{c:VC}{S:AS}
def zvp(c:VC)(k:Nat)(t:T)(b:Bool):Prop:=∀S,Vw c S->S.ro<=S.n->∃S',VQ c S S'/\call k [.agg t.cells,vcV c] S=some (.sc (.bool b),S')
end
def fw(c:VC)(k:Nat):AV:=.fn k [] [vcV c]
def TW(c:VC):List (Value×AV):=[(.int .i64 4,fw c 358),(.int .i64 5,fw c 356),(.int .i64 6,fw c 356),(.int .i64 7,fw c 356),(.int .i64 8,fw c 356),(.int .i64 9,fw c 359),(.int .i64 10,fw c 361)]
section
variable{S:AS}{c:VC}
inductive zKM(c:VC)(t:T)(b:Bool):Prop
 |no (h:b=false) (lk:∀(S:AS) (w:Nat),S.heap w=some (.map (TW c))->∀d rg,ze (.lookup false (.sc .nilFunc) false) d rg S [.mp w,.sc (.int .i64 t.kind)]=some (.sc .nilFunc,none,S))
 |yes (k:Nat) (lk:∀(S:AS) (w:Nat),S.heap w=some (.map (TW c))->∀d rg,ze (.lookup false (.sc .nilFunc) false) d rg S [.mp w,.sc (.int .i64 t.kind)]=some (fw c k,none,S)) (h:zvp c k t b)
end
section
variable{S:AS}
end
section
variable{S:AS}
end
section
variable{S:AS}
end
end Abs
