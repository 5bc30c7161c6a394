/- The program's KDC opens a request. -/
import Derived.Test.YtdiebjbepfjjfaaGreatDoorG6
import Derived.Test.YtdiebjbepfjjfaaGreatDoorE3
import Derived.Test.YtdiebjbepfjjfaaGreatDoorE4
import Derived.Test.YtdiebjbepfjjfaaGreatDoorG4
set_option maxHeartbeats 16000000
set_option maxRecDepth 100000
set_option linter.unusedVariables false
set_option linter.unusedSimpArgs false
set_option linter.unusedSectionVars false
namespace Abs
open Go
def Tlk.pc(x:Tlk)(p:T)(dv:AV):List AV:=[.sc (.string x.c.client),.sc (.string x.c.nonce),dv,.sc (.int .i64 x.c.secret.kind),.sc (.string x.c.secret.name),zh x.c.secret.kids,.sc (.int .i64 x.c.upto),
 .sc (.int .i64 x.ak.kind),.sc (.string x.ak.name),zh x.ak.kids,.sc (.int .i64 x.body.kind),.sc (.string x.body.name),zh x.body.kids,.sc (.int .i64 p.kind),.sc (.string p.name),zh p.kids,
 .sc (.string x.u.name),.sc (.int .i64 x.u.key.kind),.sc (.string x.u.key.name),zh x.u.key.kids,zk x.u.set,.sc (.int .i64 x.u.seed.kind),.sc (.string x.u.seed.name),zh x.u.seed.kids,
 .sc (.int .i64 x.u.tok.counter),.sc (.int .i64 x.u.tok.look),.sc (.int .i64 x.u.tok.sync),.sc (.int .i64 x.u.tok.pending),.sc (.int .i64 x.u.tok.fails),.sc (.int .i64 x.u.tok.limit),.sc (.int .i64 x.u.fails),.sc (.int .i64 x.now)]
def z32:List AV:=[.s ⟨#[]⟩,.s ⟨#[]⟩,.lst 0 true [],.i 0,.s ⟨#[]⟩,.lst 0 true [],.i 0,.i 0,.s ⟨#[]⟩,.lst 0 true [],.i 0,.s ⟨#[]⟩,.lst 0 true [],.i 0,.s ⟨#[]⟩,.lst 0 true [],.s ⟨#[]⟩,.i 0,.s ⟨#[]⟩,.lst 0 true [],.lst 0 true [],.i 0,.s ⟨#[]⟩,.lst 0 true [],.i 0,.i 0,.i 0,.i 0,.i 0,.i 0,.i 0,.i 0]
structure qU(us:List Us)(sv:List AV)(i:Nat)(S:AS)(k kb ub cid:Nat)(iv:AV)(K:Kd):Prop where
 hh:S.heap k=some (.rows 11 [K.row kb cid iv])
 b:AtBp S kb ub us sv i K.u
section
variable{S:AS}{x:Tlk}{p:T}{dv:AV}
theorem Tlk.pc_cell(h:dv.isCell=true):(x.pc p dv).all AV.isCell=true:=by unfold Tlk.pc;simp[h]
theorem Tlk.pc_frz{b d:Nat}(h:S.frzTo b d dv=some (zk x.c.done)):zI (S.frzTo b d) (x.pc p dv)=some (x.pc p (zk x.c.done)):=by unfold Tlk.pc;simp[h]
theorem Tlk.pc_pure:jR (x.pc p (zk x.c.done))=true:=by unfold Tlk.pc;simp
theorem Tlk.pc_nrm:yL (x.pc p (zk x.c.done))=x.pc p (zk x.c.done):=by unfold Tlk.pc;simp
theorem zAL{b d:Nat}{l:List ByteArray}:S.frzTo b d (zk l)=some (zk l):=by simp
theorem zAK{b d:Nat}:S.frzTo b d (.lst 0 true [])=some (zk []):=by simp;rfl
theorem zKF{b d:Nat}:zI (S.frzTo b d) z32=some (qS.pc tZ (zk [])):=by unfold z32;simp;rfl
theorem zBy{a b:List ByteArray}{f:Bool}(P:a.length<=4611686018427387904):call 377 [zk a,.lst 1 f (zv b)] S=some (.sc (.bool (decide (a=b))),S):=by
 rw[z8 zxO (by simp) rfl];simp only[zie];have H:pev .lenL [.lst 1 f (zv b)]=some (.sc (.int .i64 (b.length:Nat))):=by simp[pev]
 by_cases o:a.length=b.length
 ·have I:((a.length:Int)=(b.length:Int))=True:=eq_true (by omega);have J:((a.length:Int)=(a.length:Int))=True:=eq_true rfl;simp[zlk,H,o];refine y8 (α:=Nat) (R:=fun _ r=>r=some (.sc (.bool (decide (a=b))),S)) (fun i e rg S'=>i<=a.length/\S'=S/\e 0=zk a/\e 1=.lst 1 f (zv b)/\e 12=.sc (.int .i64 (b.length:Nat))/\e 13=.sc (.int .i64 (i:Nat))/\∀(j:Nat),j<i->a[j]?=b[j]?) (fun i=>a.length-i) ?_ 0 _ _ _ ?_;rotate_left
  ·exact⟨by omega,rfl,by simp,by simp,by simp,by simp,by intro j D;omega⟩
  intro Q u i e rg S' ⟨U,hS,B,E,c,q,n⟩ ih;subst hS;by_cases M:i<a.length
  ·obtain⟨x,C⟩:=yV M;obtain⟨y,F⟩:=yV (l:=b) (i:=i) (by omega);have g:(i:Int)<(b.length:Int):=by omega
   have w:=wb C;have z:pev (.iaddr 1) [.lst 1 f (zv b),.sc (.int .i64 (i:Int))]=some (.iptr [.sc (.string y)]):=by
    rw[zaX (by omega)];simp[zv,F]
   have N:IntKind.i64.wrap ((i:Int)+1)=((i+1:Nat):Int):=w64 (by omega);by_cases m:x=y
   ·have s:(x=y)=True:=eq_true m;simp[zif,B,E,c,q,g,w,z,s,N];refine ih (i+1) _ _ _ (by omega) (fun _ h=>h) ⟨by omega,rfl,by simp[B],by simp[E],by simp[c],by simp,fun j D=>?_⟩;by_cases G:j=i
    ·subst G;rw[C,F,m]
    ·exact n j (by omega)
   ·have s:(x=y)=False:=eq_false m;have t:a≠b:=fun e=>by rw[e,F]at C;exact m (Option.some.inj C).symm
    simp[zif,B,E,c,q,g,w,z,s];rw[u];simp[t]
  ·have g:¬(i:Int)<(b.length:Int):=by omega
   have O:a=b:=List.ext_getElem? fun j=>by
    by_cases D:j<i
    ·exact n j D
    ·rw[xap (by omega),xap (by omega)]
   simp[zif,B,c,q,g];rw[u];simp[O]
 ·have I:((a.length:Int)=(b.length:Int))=False:=eq_false (by omega);have t:a≠b:=fun e=>o (by rw[e]);simp[zlk,H,I,o,t]
theorem zJP{l:List ByteArray}{n:Nat}(b:n<l.length):∃f,pev (.sliceL 1 false true false) [zk l,.sc (.int .i64 (n:Int))]=some (.lst 1 f (zv (l.take n))):=by
 have a:(zv l).isEmpty=false:=by cases l with|nil=>simp at b|cons _ _=>rfl
 unfold zk lstN;rw[a];simp only[xau,if_false];refine⟨false,?_⟩;show(if(1:Nat)≠1/\(zv l).isEmpty=false then none else(zM (.sc (.int .i64 (n:Int))) (zv l).length).map fun h=>AV.lst 1 (false&&h==(zv l).length) ((zv l).take h))=_;have c:zM (.sc (.int .i64 (n:Int))) (zv l).length=some n:=by simp[zM];omega
 rw[if_neg (by simp),c];simp[zv,List.map_take]
def Opn(S:AS)(q:Tlk×T×Int)(r:Option (AV×AS)):Prop:=∃X,r=some (.tup [.agg X,.sc (.int .i64 q.2.2)],S)/\X.length=32/\X.all AV.isCell=true/\(q.2.2=0->X=q.1.pc q.2.1 (zk q.1.c.done))
theorem Opn.err{q:Tlk×T×Int}{x:Tlk}{p:T}{r:Option (AV×AS)}(h:r=some (.tup [.agg (x.pc p (zk x.c.done)),.sc (.int .i64 q.2.2)],S))(a:q.2.2≠0):Opn S q r:=⟨_,h,rfl,Tlk.pc_cell rfl,fun e=>absurd e a⟩
theorem zaq{client nonce:ByteArray}:pev (.build [.s ⟨#[]⟩,.s ⟨#[]⟩,.lst 0 true [],.i (0),.s ⟨#[]⟩,.lst 0 true [],.i (0)] [(0,1),(1,1),(3,3)]) [.sc (.string client),.sc (.string nonce),.agg zw.cells]=some (.agg (ckX ⟨client,nonce,[],zw,0⟩ (.lst 0 true []))):=zar
theorem zy7{ak body p:T}{u:Us}{c:Ck}{now:Int}:pev (.build [.s ⟨#[]⟩,.s ⟨#[]⟩,.lst 0 true [],.i (0),.s ⟨#[]⟩,.lst 0 true [],.i (0),.i (0),.s ⟨#[]⟩,.lst 0 true [],.i (0),.s ⟨#[]⟩,.lst 0 true [],.i (0),.s ⟨#[]⟩,.lst 0 true [],.s ⟨#[]⟩,.i (0),.s ⟨#[]⟩,.lst 0 true [],.lst 0 true [],.i (0),.s ⟨#[]⟩,.lst 0 true [],.i (0),.i (0),.i (0),.i (0),.i (0),.i (0),.i (0),.i (0)] [(0,7),(7,3),(10,3),(13,3),(16,15),(31,1)])
 [.agg (ckX c (.lst 0 true [])),.agg ak.cells,.agg body.cells,.agg p.cells,.agg u.row,.sc (.int .i64 now)]=some (.agg ((Tlk.mk ak body c u now).pc p (.lst 0 true []))):=by
 rw[zq ak,zq body,zq p];unfold Us.row ckX;simp;rfl
end
section
variable{us:List Us}{sv:List AV}{i:Nat}{S:AS}{k kb ub cid:Nat}{iv:AV}{K:Kd}
theorem qU.ro(h:qU us sv i S k kb ub cid iv K)(r:Nat):qU us sv i {S with ro:=r} k kb ub cid iv K:=⟨h.hh,h.b.ro r⟩
theorem qU.key(h:qU us sv i S k kb ub cid iv K)(d:Option Nat)(rg:Nat->Option (List AV)):ze (.ld none 3 true) d rg S [.ptr k 0 0]=some (.agg K.key.cells,none,S):=by rw[zY h.hh,<-tri];rfl
theorem qU.cookies(h:qU us sv i S k kb ub cid iv K)(d:Option Nat)(rg:Nat->Option (List AV)):ze (.ld none 3 true) d rg S [.ptr k 0 3]=some (.agg K.cookies.cells,none,S):=by rw[zY h.hh,<-tri];rfl
theorem qU.users(h:qU us sv i S k kb ub cid iv K)(d:Option Nat)(rg:Nat->Option (List AV)):ze (.ld none 1 false) d rg S [.ptr k 0 6]=some (.ptr kb 0 0,none,S):=by rw[zY h.hh];rfl
theorem qU.cch(h:qU us sv i S k kb ub cid iv K)(d:Option Nat)(rg:Nat->Option (List AV)):ze (.ld none 1 false) d rg S [.ptr k 0 8]=some (.ptr cid 0 0,none,S):=by rw[zY h.hh];rfl
theorem qU.nn(h:qU us sv i S k kb ub cid iv K)(d:Option Nat)(rg:Nat->Option (List AV)):ze (.ld none 1 false) d rg S [.ptr k 0 9]=some (.sc (.int .i64 K.n),none,S):=by rw[zY h.hh];rfl
theorem qU.issued(h:qU us sv i S k kb ub cid iv K)(d:Option Nat)(rg:Nat->Option (List AV)):ze (.ld none 1 false) d rg S [.ptr k 0 10]=some (iv,none,S):=by rw[zY h.hh];rfl
theorem zI1(h:qU us sv i S k kb ub cid iv K){t:T}{now:Int}(ht:t.lo)(hc:K.cookies.lo)(hl:K.u.set.length<=1000)(ae:∀cl,ku t=some cl->vD us i K.u cl):Opn S (K.opens t now) (call 288 [.ptr k 0 0,.agg t.cells,.sc (.int .i64 now)] S):=by
 rw[zi zwU rfl (by simp) rfl];have h':=h.ro S.n;have w:=fun S=>@s94 S t (by have:=T.bb_len ht.bb;omega);have zf:=fun S b d=>@zKF S b d;have zp:=@Tlk.pc_pure qS tZ;have af:([.s ⟨#[]⟩,.s ⟨#[]⟩,.lst 0 true [],.i 0,.s ⟨#[]⟩,.lst 0 true [],.i 0,.i 0,.s ⟨#[]⟩,.lst 0 true [],.i 0,.s ⟨#[]⟩,.lst 0 true [],.i 0,.s ⟨#[]⟩,.lst 0 true [],.s ⟨#[]⟩,.i 0,.s ⟨#[]⟩,.lst 0 true [],.lst 0 true [],.i 0,.s ⟨#[]⟩,.lst 0 true [],.i 0,.i 0,.i 0,.i 0,.i 0,.i 0,.i 0,.i 0]:List AV)=z32:=rfl;unfold Kd.opens;cases ha:qY t with
 |none=>
  rw[ha]at w;refine Opn.err (x:=qS) (p:=tZ) ?_ (by show(2:Int)≠0;decide);simp[q9,vJ,w,y9,zj];rfl
 |some r=>
  rw[ha]at w;obtain⟨body,armor,sealed⟩:=r;obtain⟨m1,m2,m3⟩:=zkd ha;have l1:=ht.kid m1;have l2:=ht.kid m2;have l3:=ht.kid m3;have y:=fun S=>@s92 S body (by have:=T.bb_len l1.bb;omega);show Opn S (K.opB t body armor sealed now (jL body)) _;cases hb:jL body with
  |none=>
   rw[hb]at y;refine Opn.err (x:=qS) (p:=tZ) ?_ (by show(2:Int)≠0;decide);simp[q9,vJ,w,y9,y,yI,zj];exact⟨rfl,rfl⟩
  |some q=>
   rw[hb]at y;obtain⟨client,nonce⟩:=q;show Opn S (K.opA t body sealed client nonce now (qI K.key armor)) _;have c:=fun S=>@zJk S K.key armor l2.bb;have g:=h'.key;unfold Kd.opA;generalize qI K.key armor=a at *;by_cases H:a.2=0
   case neg=>
    rw[if_neg H];refine Opn.err (x:=qS) (p:=tZ) ?_ H;simp[q9,vJ,w,y9,y,yI,g,c,zt,H,zj];rfl
   rw[if_pos H];have m:=fun S=>@zJl S a.1 body sealed l3.bb;have ac:=zmz (k:=a.1) (b:=body) l3;unfold Kd.opR;generalize vP a.1 body sealed=r at *;by_cases N:r.2.2=0
   case neg=>
    rw[if_neg N];refine Opn.err (x:=qS) (p:=tZ) ?_ N;simp[q9,vJ,w,y9,y,yI,g,c,zt,H,m,jm,N,zj];rfl
   rw[if_pos N];have ad:vD us i K.u client:=ae client (by unfold ku;rw[ha];show(jL body).map _=_;rw[hb];rfl);have j:=zJm (n:=client) h'.b ad;have D:=h'.users;by_cases hn:K.u.name=client
   case neg=>
    rw[if_neg hn]at j ⊢;have Q:=@Us.row_cell zU;have U:=@Us.row_len zU;have V:=@Us.take zU;refine Opn.err (x:=qS) (p:=tZ) ?_ (by show(3:Int)≠0;decide);generalize zU.row=R at *;simp[q9,vJ,w,y9,y,yI,g,c,zt,H,m,jm,N,D,j,Q,U,V,zj];rfl
   rw[if_pos hn]at j ⊢;have z:=fun S=>@s83 S r.2.1 (by have:=T.bb_len ac.1.bb;omega);have F:=zup (n:=client) h'.b ad;rw[hn]at F;have Q:=@Us.row_cell K.u;have U:=@Us.row_len K.u;have V:=@Us.take K.u;have r4:(K.u.row.drop 4).take 1=[zk K.u.set]:=rfl;have E:=@zy7 a.1 body r.1 K.u ⟨client,nonce,[],zw,0⟩ now;have opF:∀(x:Tlk),K.opF t r.1 x=if 5<=K.u.fails then(qS,t,7)else(x,r.1,0):=fun x=>rfl
   have xc:((Tlk.mk a.1 body ⟨client,nonce,[],zw,0⟩ K.u now).pc r.1 (.lst 0 true [])).all AV.isCell=true:=Tlk.pc_cell rfl;have xl:((Tlk.mk a.1 body ⟨client,nonce,[],zw,0⟩ K.u now).pc r.1 (.lst 0 true [])).length=32:=rfl;have xt:List.take 32 ((Tlk.mk a.1 body ⟨client,nonce,[],zw,0⟩ K.u now).pc r.1 (.lst 0 true []))=((Tlk.mk a.1 body ⟨client,nonce,[],zw,0⟩ K.u now).pc r.1 (.lst 0 true [])):=rfl;have xf:=fun S b d=>@Tlk.pc_frz S ⟨a.1,body,⟨client,nonce,[],zw,0⟩,K.u,now⟩ r.1 (.lst 0 true []) b d zAK;have xp:=@Tlk.pc_pure ⟨a.1,body,⟨client,nonce,[],zw,0⟩,K.u,now⟩ r.1;simp only at xf xp;cases hi:yR r.2.1 with
   |true=>
    rw[hi]at z;rw[if_pos rfl,opF];refine⟨(Tlk.mk a.1 body ⟨client,nonce,[],zw,0⟩ K.u now).pc r.1 (zk []),?_,rfl,Tlk.pc_cell rfl,fun e=>?_⟩
    ·by_cases O:5<=K.u.fails
     ·rw[if_pos O];generalize(Tlk.mk a.1 body ⟨client,nonce,[],zw,0⟩ K.u now).pc r.1 (.lst 0 true [])=X at *;generalize(Tlk.mk a.1 body ⟨client,nonce,[],zw,0⟩ K.u now).pc r.1 (zk [])=Y at *;generalize K.u.row=R at *;simp[q9,vJ,w,y9,y,yI,g,c,zt,H,m,jm,N,D,j,Q,U,V,zj,-jl,zaq,E,z,F,O,xc,xl,xt,xf,xp]
     ·rw[if_neg O];generalize(Tlk.mk a.1 body ⟨client,nonce,[],zw,0⟩ K.u now).pc r.1 (.lst 0 true [])=X at *;generalize(Tlk.mk a.1 body ⟨client,nonce,[],zw,0⟩ K.u now).pc r.1 (zk [])=Y at *;generalize K.u.row=R at *;simp[q9,vJ,w,y9,y,yI,g,c,zt,H,m,jm,N,D,j,Q,U,V,zj,-jl,zaq,E,z,F,O,xc,xl,xt,xf,xp]
    ·split at e
     ·exact absurd e (by show ¬(7:Int)=0;decide)
     ·rename_i O;rw[if_neg O]
   |false=>
    rw[hi]at z;rw[if_neg (by simp)];have C:=fun S=>@zyV S K.cookies r.2.1 now hc ac.1;have I:=h'.cookies;unfold Kd.opC;simp only;generalize jg K.cookies r.2.1 now=o at *;have o0:o.1.cells.take 1=[.sc (.string o.1.client)]:=rfl;have ot:o.1.cells.take 7=o.1.cells:=rfl;have oc:o.1.cells.all AV.isCell=true:=rfl;have ol:o.1.cells.length=7:=rfl;have xs:o.1.cells++List.drop 7 ((Tlk.mk a.1 body ⟨client,nonce,[],zw,0⟩ K.u now).pc r.1 (.lst 0 true []))=(Tlk.mk a.1 body o.1 K.u now).pc r.1 (zk o.1.done):=rfl;have yc:((Tlk.mk a.1 body o.1 K.u now).pc r.1 (zk o.1.done)).all AV.isCell=true:=Tlk.pc_cell rfl;have yl:((Tlk.mk a.1 body o.1 K.u now).pc r.1 (zk o.1.done)).length=32:=rfl;have yt:List.take 32 ((Tlk.mk a.1 body o.1 K.u now).pc r.1 (zk o.1.done))=((Tlk.mk a.1 body o.1 K.u now).pc r.1 (zk o.1.done)):=rfl;have yf:=fun S b d=>@Tlk.pc_frz S ⟨a.1,body,o.1,K.u,now⟩ r.1 (zk o.1.done) b d zAL;have yp:=@Tlk.pc_pure ⟨a.1,body,o.1,K.u,now⟩ r.1;have y0:List.take 1 ((Tlk.mk a.1 body o.1 K.u now).pc r.1 (zk o.1.done))=[.sc (.string o.1.client)]:=rfl;have y1:List.take 1 (List.drop 1 ((Tlk.mk a.1 body o.1 K.u now).pc r.1 (zk o.1.done)))=[.sc (.string o.1.nonce)]:=rfl;have W:List.take 1 ((Tlk.mk a.1 body o.1 K.u now).pc r.1 (zk o.1.done)).tail=[.sc (.string o.1.nonce)]:=rfl;have y2:List.take 1 (List.drop 2 ((Tlk.mk a.1 body o.1 K.u now).pc r.1 (zk o.1.done)))=[zk o.1.done]:=rfl;simp only at yf yp;by_cases h2:o.2=0
    case neg=>
     rw[if_neg h2];refine Opn.err (x:=⟨a.1,body,o.1,K.u,now⟩) (p:=r.1) ?_ h2;generalize(Tlk.mk a.1 body o.1 K.u now).pc r.1 (zk o.1.done)=Y at *;generalize(Tlk.mk a.1 body ⟨client,nonce,[],zw,0⟩ K.u now).pc r.1 (.lst 0 true [])=X at *;generalize K.u.row=R at *;generalize o.1.cells=OC at *;simp[q9,vJ,w,y9,y,yI,g,c,zt,H,m,jm,N,D,j,Q,U,V,zj,-jl,zaq,E,z,I,C,h2,ot,oc,ol,xs,xc,xl,xt,yc,yl,yt,yf,yp]
    rw[if_pos h2];by_cases c1:o.1.client=client
    case neg=>
     rw[if_neg (fun h=>c1 h.1)];have J:(o.1.client=client)=False:=eq_false c1;refine Opn.err (x:=⟨a.1,body,o.1,K.u,now⟩) (p:=r.1) ?_ (by show(11:Int)≠0;decide);generalize(Tlk.mk a.1 body o.1 K.u now).pc r.1 (zk o.1.done)=Y at *;generalize(Tlk.mk a.1 body ⟨client,nonce,[],zw,0⟩ K.u now).pc r.1 (.lst 0 true [])=X at *;generalize K.u.row=R at *;generalize o.1.cells=OC at *;simp[q9,vJ,w,y9,y,yI,g,c,zt,H,m,jm,N,D,j,Q,U,V,zj,-jl,zaq,E,z,I,C,h2,ot,oc,ol,xs,xc,xl,xt,yc,yl,yt,yf,yp,y0,J]
    have J:(o.1.client=client)=True:=eq_true c1;by_cases c2:o.1.nonce=nonce
    case neg=>
     rw[if_neg (fun h=>c2 h.2.1)];have P:(o.1.nonce=nonce)=False:=eq_false c2;refine Opn.err (x:=⟨a.1,body,o.1,K.u,now⟩) (p:=r.1) ?_ (by show(11:Int)≠0;decide);generalize(Tlk.mk a.1 body o.1 K.u now).pc r.1 (zk o.1.done)=Y at *;generalize(Tlk.mk a.1 body ⟨client,nonce,[],zw,0⟩ K.u now).pc r.1 (.lst 0 true [])=X at *;generalize K.u.row=R at *;generalize o.1.cells=OC at *;simp[q9,vJ,w,y9,y,yI,g,c,zt,H,m,jm,N,D,j,Q,U,V,zj,-jl,zaq,E,z,I,C,h2,ot,oc,ol,xs,xc,xl,xt,yc,yl,yt,yf,yp,y0,y1,W,J,P]
    have P:(o.1.nonce=nonce)=True:=eq_true c2;by_cases c3:o.1.done.length<K.u.set.length
    case neg=>
     have M:jK o.1.done K.u.set=false:=by unfold jK;simp[c3]
     rw[if_neg (fun h=>by rw[M]at h;cases h.2.2)];have Z:((K.u.set.length:Int)<=(o.1.done.length:Int))=True:=eq_true (by omega);have aa:(K.u.set.length<=o.1.done.length)=True:=eq_true (by omega);refine Opn.err (x:=⟨a.1,body,o.1,K.u,now⟩) (p:=r.1) ?_ (by show(11:Int)≠0;decide);generalize(Tlk.mk a.1 body o.1 K.u now).pc r.1 (zk o.1.done)=Y at *;generalize(Tlk.mk a.1 body ⟨client,nonce,[],zw,0⟩ K.u now).pc r.1 (.lst 0 true [])=X at *;generalize K.u.row=R at *;generalize o.1.cells=OC at *;simp[q9,vJ,w,y9,y,yI,g,c,zt,H,m,jm,N,D,j,Q,U,V,zj,-jl,zaq,E,z,I,C,h2,ot,oc,ol,xs,xc,xl,xt,yc,yl,yt,yf,yp,y0,y1,W,y2,J,P,r4,Z,aa]
    have Z:((K.u.set.length:Int)<=(o.1.done.length:Int))=False:=eq_false (by omega);have aa:(K.u.set.length<=o.1.done.length)=False:=eq_false (by omega);obtain⟨f,ab⟩:=zJP c3;have G:=fun S=>@zBy S o.1.done (K.u.set.take o.1.done.length) f (by omega);by_cases c4:o.1.done=K.u.set.take o.1.done.length
    ·have M:jK o.1.done K.u.set=true:=by unfold jK;simp[c3,<-c4]
     rw[if_pos ⟨c1,c2,M⟩,opF];rw[decide_eq_true c4]at G;refine⟨(Tlk.mk a.1 body o.1 K.u now).pc r.1 (zk o.1.done),?_,rfl,Tlk.pc_cell rfl,fun e=>?_⟩
     ·clear M;generalize K.u.set.take o.1.done.length=B at *;generalize zv B=BR at *;generalize(Tlk.mk a.1 body o.1 K.u now).pc r.1 (zk o.1.done)=Y at *;generalize(Tlk.mk a.1 body ⟨client,nonce,[],zw,0⟩ K.u now).pc r.1 (.lst 0 true [])=X at *;generalize K.u.row=R at *;generalize o.1.cells=OC at *;by_cases O:5<=K.u.fails
      ·rw[if_pos O];simp[q9,vJ,w,y9,y,yI,g,c,zt,H,m,jm,N,D,j,Q,U,V,zj,-jl,zaq,E,z,I,C,h2,ot,oc,ol,xs,xc,xl,xt,yc,yl,yt,yf,yp,y0,y1,W,y2,J,P,r4,Z,aa,ab,G,F,O]
      ·rw[if_neg O];simp[q9,vJ,w,y9,y,yI,g,c,zt,H,m,jm,N,D,j,Q,U,V,zj,-jl,zaq,E,z,I,C,h2,ot,oc,ol,xs,xc,xl,xt,yc,yl,yt,yf,yp,y0,y1,W,y2,J,P,r4,Z,aa,ab,G,F,O]
     ·split at e
      ·exact absurd e (by show ¬(7:Int)=0;decide)
      ·rename_i O;rw[if_neg O]
    ·have M:jK o.1.done K.u.set=false:=by unfold jK;simp[c3];exact fun e=>c4 e.symm
     rw[if_neg (fun h=>by rw[M]at h;cases h.2.2)];rw[decide_eq_false c4]at G;refine Opn.err (x:=⟨a.1,body,o.1,K.u,now⟩) (p:=r.1) ?_ (by show(11:Int)≠0;decide);clear M;generalize K.u.set.take o.1.done.length=B at *;generalize zv B=BR at *;generalize(Tlk.mk a.1 body o.1 K.u now).pc r.1 (zk o.1.done)=Y at *;generalize(Tlk.mk a.1 body ⟨client,nonce,[],zw,0⟩ K.u now).pc r.1 (.lst 0 true [])=X at *;generalize K.u.row=R at *;generalize o.1.cells=OC at *;simp[q9,vJ,w,y9,y,yI,g,c,zt,H,m,jm,N,D,j,Q,U,V,zj,-jl,zaq,E,z,I,C,h2,ot,oc,ol,xs,xc,xl,xt,yc,yl,yt,yf,yp,y0,y1,W,y2,J,P,r4,Z,aa,ab,G]
end
end Abs
namespace Abs.Rp
open Go
def esC(l:List (ByteArray×Int)):List (Value×AV):=l.map fun p=>(.string p.1,.sc (.int .i64 p.2))
def lookC(id:ByteArray):List (ByteArray×Int)->Option Int
 |[]=>none
 |p::l=>if p.1=id then some p.2 else lookC id l
def setC(id:ByteArray)(v:Int):List (ByteArray×Int)->List (ByteArray×Int)
 |[]=>[(id,v)]
 |p::l=>if p.1=id then(id,v)::l else p::setC id v l
def liveC(now:Int)(l:List (ByteArray×Int)):List (ByteArray×Int):=l.filter fun p=>decide (now<p.2)
def seenC(room:Int)(l:List (ByteArray×Int))(id:ByteArray)(a now:Int):Int×List (ByteArray×Int):=
 if a<=now then(5,l)else
 match lookC id (liveC now l)with
 |some old=>(9,setC id (max old a) (liveC now l))
 |none=>if room<=(liveC now l).length then(10,liveC now l)else(0,setC id a (liveC now l))
def setM(S:AS)(mid:Nat)(l:List (ByteArray×Int))(k:Nat):AS:={S.set mid (some (.map (esC l)))with n:=S.n+k}
structure IsCache(S:AS)(cid mid:Nat)(room:Int)(l:List (ByteArray×Int)):Prop where
 c:S.heap cid=some (.rows 2 [[.sc (.int .i64 room),.mp mid]])
 m:S.heap mid=some (.map (esC l))
 ro:S.ro<=mid
 ltc:cid<S.n
 ltm:mid<S.n
theorem IsCache.ne{S:AS}{cid mid:Nat}{room:Int}{l:List (ByteArray×Int)}(h:IsCache S cid mid room l):cid≠mid:=by
 rintro rfl;have:=h.c;rw[h.m]at this;cases this
theorem IsCache.setM{S:AS}{cid mid:Nat}{room:Int}{l:List (ByteArray×Int)}(h:IsCache S cid mid room l)(l':List (ByteArray×Int))(k:Nat):IsCache (setM S mid l' k) cid mid room l' where
 c:=by show(if cid=mid then _ else _)=_;rw[if_neg h.ne];exact h.c
 m:=by show(if mid=mid then _ else _)=_;rw[if_pos rfl]
 ro:=h.ro
 ltc:=xan h.ltc (Nat.le_add_right _ _)
 ltm:=xan h.ltm (Nat.le_add_right _ _)
theorem znb{S:AS}{mid:Nat}{l a:List (ByteArray×Int)}{k b:Nat}:setM (setM S mid l k) mid a b=setM S mid a (k+b):=by
 unfold setM AS.set;simp only[AS.mk.injEq,and_true];refine⟨?_,by omega⟩;funext j;split<;>rfl
theorem zlE{id:ByteArray}:∀{l:List (ByteArray×Int)} {i:Nat},∃r,qy (.string id) (esC l) i=some r/\(r.map fun x=>x.2)=(lookC id l).map (fun n=>.sc (.int .i64 n))/\
 ∀v,(match r with|some (j,_)=>i<=j/\∀pre:List (Value×AV),pre.length=i->(pre++esC l).set j (.string id,.sc (.int .i64 v))=pre++esC (setC id v l)|none=>esC l++[(.string id,.sc (.int .i64 v))]=esC (setC id v l))
 |[],i=>⟨none,rfl,rfl,fun v=>rfl⟩
 |p::l,i=>by
  obtain⟨k,n⟩:=p;by_cases h:k=id
  ·subst h;refine⟨some (i,.sc (.int .i64 n)),?_,?_,fun v=>⟨xad _,fun pre hp=>?_⟩⟩
   ·show qy (.string k) ((.string k,.sc (.int .i64 n))::esC l) i=_;have:qO (.string k) (.string k)=some true:=by simp only[qO,zbf.2 rfl]
    rw[qy,this]
   ·simp[lookC]
   ·subst hp;simp[esC,setC]
  ·obtain⟨r,b,c,e⟩:=@zlE id l (i+1);refine⟨r,?_,?_,fun v=>?_⟩
   ·show qy (.string id) ((.string k,.sc (.int .i64 n))::esC l) i=_;have:qO (.string id) (.string k)=some false:=by
     simp only[qO];cases f:(id==k)with
     |false=>rfl
     |true=>exact absurd (zbf.1 f).symm h
    rw[qy,this];exact b
   ·rw[c];simp[lookC,h]
   ·have:=e v;cases r with
    |none=>
     simp only at this ⊢;simp only[setC,h,if_false];show(_::esC l)++_=_::_;rw[List.cons_append,this];rfl
    |some r=>
     obtain⟨j,x⟩:=r;simp only at this ⊢;refine⟨by omega,fun pre hp=>?_⟩;have a:=this.2 (pre++[(.string k,.sc (.int .i64 n))]) (by simp[hp]);simp only[setC,h,if_false];simp only[List.append_assoc,List.singleton_append]at a;exact a
section
variable{S:AS}{cid mid:Nat}{room:Int}{l:List (ByteArray×Int)}{d:Option Nat}{rg:Nat->Option (List AV)}
theorem zmi(h:IsCache S cid mid room l):ze (.ld none 1 false) d rg S [.ptr cid 0 1]=some (.mp mid,none,S):=by
 rw[zY h.c];simp
theorem zsW(h:IsCache S cid mid room l):ze (.ld none 1 false) d rg S [.ptr cid 0 0]=some (.sc (.int .i64 room),none,S):=by
 rw[zY h.c];simp
theorem zsX(h:IsCache S cid mid room l):ze .lenM d rg S [.mp mid]=some (.sc (.int .i64 l.length),none,S):=by
 rw[zmj h.m];simp[esC]
theorem zmk(h:IsCache S cid mid room l){id:ByteArray}:ze (.lookup true (.sc (.int .i64 0)) true) d rg S [.mp mid,.sc (.string id)]=some (.tup [.sc (.int .i64 ((lookC id l).getD 0)),.sc (.bool (lookC id l).isSome)],none,S):=by
 obtain⟨r,c,a,_⟩:=@zlE id l 0;simp only[ze,qM,h.m,xae,c,xam];cases r with
 |none=>cases b:lookC id l with
  |none=>simp[zbB]
  |some n=>rw[b]at a;cases a
 |some r=>cases b:lookC id l with
  |none=>rw[b]at a;cases a
  |some n=>rw[b]at a;simp at a;simp[zbB,a]
theorem zml(h:IsCache S cid mid room l){id:ByteArray}{n:Int}:ze (.mapset true) d rg S [.mp mid,.sc (.string id),.sc (.int .i64 n)]=some (.junk,none,setM S mid (setC id n l) 0):=by
 obtain⟨r,b,_,a⟩:=@zlE id l 0;have a:=a n;simp only[ze,qM,zBa,h.m,h.ro,b,xam,and_self,if_true];cases r with
 |none=>
  simp only at a ⊢;rw[a];rfl
 |some r=>
  obtain⟨j,x⟩:=r;simp only at a ⊢;have:=a.2 [] rfl;simp only[List.nil_append]at this;rw[this];rfl
theorem zGG(h:IsCache S cid mid room l){now:Int}:wK [.ptr cid 0 0,.sc (.int .i64 now)] S=some (.sc (.int .i64 (IntKind.i64.wrap (l.length-(liveC now l).length))),setM S mid (liveC now l) 1):=by
 have a:(esC l).all zfn=true:=by
  rw[List.all_eq_true];intro e b;obtain⟨p,_,rfl⟩:=List.mem_map.1 b;rfl
 have f:(esC l).filter (wH now)=esC (liveC now l):=by
  unfold esC liveC;rw[List.filter_map];rfl
 simp only[wK,h.c,xas,h.m,h.ro,a,and_self,if_true,f];simp[esC,setM]
end
def zdV:ACode:=.seq .skip (.seq (.ops [⟨some 52,.pur .mov,[.t 9],none⟩,⟨some 8,.pur .mov,[.t 52],none⟩]) .ret)
theorem zyp:vn zaI 0=some zdV:=rfl
def newR(S:AS)(room:Int):AS:=(S.new (.map [])).new (.rows 2 [[.sc (.int .i64 (max room 0)),.mp S.n]])
theorem newR_C{S:AS}{room:Int}(hn:S.ro<=S.n):IsCache (newR S room) (S.n+1) S.n (max room 0) []where
 c:=by simp[newR,AS.new]
 m:=by simp[newR,AS.new,esC]
 ro:=hn
 ltc:=by simp[newR,AS.new]
 ltm:=by simp[newR,AS.new];omega
structure HasR(A:zA):Prop where
 n50:A.ext 50=none/\A.funcs 50=some f50/\A.mode 50=.keep
 n51:A.ext 51=none/\A.funcs 51=some f51/\A.mode 51=.keep
 n53:A.ext 53=some wK
section
variable{A:zA}(hA:HasR A){S:AS}{cid mid:Nat}{room:Int}{l:List (ByteArray×Int)}
include hA
theorem zms(h:IsCache S cid mid room l){now:Int}:yq A (run A) 53 [.ptr cid 0 0,.sc (.int .i64 now)] S=some (.sc (.int .i64 (IntKind.i64.wrap (l.length-(liveC now l).length))),setM S mid (liveC now l) 1):=by
 rw[zoD hA.n53 rfl,zGG h]
theorem new_spec{room:Int}:yq A (run A) 50 [.sc (.int .i64 room)] S=some (.ptr (S.n+1) 0 0,newR S room):=by
 rw[zkC hA.n50.1 hA.n50.2.1 hA.n50.2.2 rfl (by show 1<=8;omega)];simp[f50,zqU,zn,yD,yN,ze,vc,newR,AS.new];rfl
theorem seen_spec(h:IsCache S cid mid room l){id:ByteArray}{t now:Int}:
 yq A (run A) 51 [.ptr cid 0 0,.sc (.string id),.sc (.int .i64 t),.sc (.int .i64 now)] S=
  some (.sc (.int .i64 (seenC room l id t now).1),if t<=now then S else setM S mid (seenC room l id t now).2 1):=by
 rw[zkC hA.n51.1 hA.n51.2.1 hA.n51.2.2 rfl (by show 4<=53;omega)];have hp:=h.setM (liveC now l) 1;have key:∀b,vn b 0=some zdV->fin f51.res (zH A (.seq (.ops [⟨some 8,.pur .mov,[.k (.i (0))],none⟩]) (.scope b zaI)) (st 53 (ini [.ptr cid 0 0,.sc (.string id),.sc (.int .i64 t),.sc (.int .i64 now)]) (fun _=>none) S) [])=
  some (.sc (.int .i64 (seenC room l id t now).1),if t<=now then S else setM S mid (seenC room l id t now).2 1):=by
  intro b a;by_cases c:t<=now
  ·simp[f51,zaI,zn,seenC,c,yD,yN,zjX a,zdV]
  ·cases e:lookC id (liveC now l)with
   |some old=>
    simp[f51,zaI,zn,seenC,c,e,yD,yN,zjX a,zdV,zms hA h,zmi hp,zmk hp,zml hp,znb]
   |none=>
    by_cases f:room<=(liveC now l).length
    ·simp[f51,zaI,zn,seenC,c,e,f,yD,yN,zjX a,zdV,zms hA h,zmi hp,zmk hp,zml hp,zsX hp,zsW hp,znb]
    ·simp[f51,zaI,zn,seenC,c,e,f,yD,yN,zjX a,zdV,zms hA h,zmi hp,zmk hp,zml hp,zsX hp,zsW hp,znb]
 exact key zaI zyp
end
theorem zuE{id:ByteArray}{v old:Int}:∀{l:List (ByteArray×Int)},lookC id l=some old->(setC id v l).map (·.1)=l.map (·.1)
 |[],h=>by cases h
 |p::l,h=>by
  by_cases a:p.1=id
  ·simp[setC,a]
  ·simp only[lookC,a,if_false]at h;simp[setC,a,zuE h]
theorem zuF{id:ByteArray}{v:Int}:∀{l:List (ByteArray×Int)},lookC id l=none->setC id v l=l++[(id,v)]
 |[],_=>rfl
 |p::l,h=>by
  simp only[lookC]at h;split at h
  ·cases h
  ·rename_i a;simp only[setC,a,if_false,List.cons_append,zuF h]
def atL(id:ByteArray):List (ByteArray×Int)->Nat->Nat->Nat
 |[],_,a=>a
 |p::l,i,a=>atL id l (i+1) (if sLt p.1 id then i+1 else a)
theorem zgm{id:ByteArray}:∀{l:List (ByteArray×Int)} {i a:Nat},a<=i->atL id l i a<=i+l.length
 |[],i,a,h=>by simpa[atL]using h
 |p::l,i,a,h=>by
  have:=@zgm id l (i+1) (if sLt p.1 id then i+1 else a) (by split<;>omega);simp only[atL,xaI];omega
def insR(id:ByteArray)(t:Int)(l:List (ByteArray×Int)):List (ByteArray×Int):=(l.take (atL id l 0 0)++[(id,t)])++l.drop (atL id l 0 0)
def seenR(room:Int)(l:List (ByteArray×Int))(id:ByteArray)(t now:Int):Int×List (ByteArray×Int):=
 if t<=now then(5,l)else
 match lookC id (liveC now l)with
 |some old=>(9,setC id (max old t) (liveC now l))
 |none=>if room<=(liveC now l).length then(10,liveC now l)else(0,insR id t (liveC now l))
def bLt(a b:ByteArray):Prop:=a.data.toList<b.data.toList
theorem zkg{a b c:ByteArray}(e:bLt a b)(f:bLt b c):bLt a c:=List.lt_trans e f
theorem zyW{a b:ByteArray}(h:bLt a b):a≠b:=by
 rintro rfl;exact List.lt_irrefl _ h
theorem zn7{a b:ByteArray}(h:¬bLt a b)(f:a≠b):bLt b a:=by
 have g:b.data.toList<=a.data.toList:=List.not_lt.1 h;rcases Classical.em (bLt b a)with c|c
 ·exact c
 ·have e:a.data.toList<=b.data.toList:=List.not_lt.1 c;exact absurd (kS (List.le_antisymm e g)) f
theorem zjJ{a b:ByteArray}:sLt a b=true↔bLt a b:=by
 rw[zfR];exact decide_eq_true_iff
structure RelP(lc lr:List (ByteArray×Int)):Prop where
 pm:lr.Perm lc
 so:lr.Pairwise fun p q=>bLt p.1 q.1
theorem zmb{l:List (ByteArray×Int)}(h:l.Pairwise fun p q=>bLt p.1 q.1):(l.map (·.1)).Nodup:=by
 unfold List.Nodup;rw[List.pairwise_map];exact h.imp fun h=>zyW h
theorem RelP.nd{a b:List (ByteArray×Int)}(h:RelP a b):(a.map (·.1)).Nodup:=((h.pm.map _).nodup_iff).1 (zmb h.so)
theorem RelP.live{a b:List (ByteArray×Int)}(h:RelP a b)(now:Int):RelP (liveC now a) (liveC now b):=
 ⟨h.pm.filter _,h.so.sublist List.filter_sublist⟩
theorem zlZ{id:ByteArray}{v:Int}:∀{l:List (ByteArray×Int)},(l.map (·.1)).Nodup->(lookC id l=some v↔(id,v)∈l)
 |[],_=>by simp[lookC]
 |p::l,h=>by
  simp only[xao,List.nodup_cons]at h;obtain⟨a,b⟩:=p;by_cases hp:a=id
  ·subst hp;simp only[lookC,if_true,Option.some.injEq,xaz,Prod.mk.injEq,true_and];constructor
   ·intro h;exact .inl h.symm
   ·rintro(c|c)
    ·exact c.symm
    ·exact absurd (List.mem_map.2 ⟨_,c,rfl⟩) h.1
  ·simp only[lookC,hp,if_false,xaz,Prod.mk.injEq];rw[zlZ h.2];constructor
   ·exact .inr
   ·rintro(⟨c,_⟩|c)
    ·exact absurd c.symm hp
    ·exact c
theorem RelP.look{a b:List (ByteArray×Int)}(h:RelP a b)(id:ByteArray):lookC id b=lookC id a:=by
 apply Option.ext;intro v;rw[zlZ (zmb h.so),zlZ h.nd];exact h.pm.mem_iff
theorem znc{id:ByteArray}{v:Int}:∀{l:List (ByteArray×Int)},(l.map (·.1)).Nodup->(setC id v l).Perm ((id,v)::l.filter fun p=>decide (p.1≠id))
 |[],_=>by simp[setC]
 |p::l,h=>by
  simp only[xao,List.nodup_cons]at h;by_cases hp:p.1=id
  ·have:(l.filter fun p=>decide (p.1≠id))=l:=by
    rw[List.filter_eq_self];intro q b;simp only[ne_eq,decide_not,Bool.not_eq_eq_eq_not,Bool.not_true,decide_eq_false_iff_not];intro a;exact h.1 (List.mem_map.2 ⟨q,b,by rw[a,hp]⟩)
   simp only[setC,hp,if_true,List.filter_cons,ne_eq,not_true_eq_false,decide_false,xau,if_false];simp only[ne_eq]at this;rw[this]
  ·simp only[setC,hp,if_false,List.filter_cons,ne_eq,not_false_eq_true,decide_true,if_true];have:=@znc id v l h.2;simp only[ne_eq]at this;exact(this.cons p).trans (List.Perm.swap _ _ _)
theorem RelP.set{b a:List (ByteArray×Int)}(h:RelP b a){id:ByteArray}{old v:Int}(c:lookC id b=some old):RelP (setC id v b) (setC id v a):=by
 refine⟨(znc (zmb h.so)).trans (((h.pm.filter _).cons _).trans (znc h.nd).symm),?_⟩;have e:(setC id v a).map (·.1)=a.map (·.1):=zuE (old:=old) (by rw[h.look];exact c);have:(a.map (·.1)).Pairwise bLt:=by rw[List.pairwise_map];exact h.so
 rw[<-e,List.pairwise_map]at this;exact this
def zaM(id:ByteArray)(t:Int):List (ByteArray×Int)->List (ByteArray×Int)
 |[]=>[(id,t)]
 |p::l=>if sLt p.1 id then p::zaM id t l else(id,t)::p::l
theorem zlR{id:ByteArray}{t:Int}:∀{l:List (ByteArray×Int)},(zaM id t l).Perm ((id,t)::l)
 |[]=>List.Perm.refl _
 |p::l=>by
  unfold zaM;split
  ·exact((zlR).cons p).trans (List.Perm.swap _ _ _)
  ·exact List.Perm.refl _
theorem zrJ{id:ByteArray}{t:Int}:∀{l:List (ByteArray×Int)},(l.Pairwise fun p q=>bLt p.1 q.1)->(∀p∈l,p.1≠id)->(zaM id t l).Pairwise fun p q=>bLt p.1 q.1
 |[],_,_=>by simp[zaM]
 |p::l,h,hn=>by
  rw[List.pairwise_cons]at h;unfold zaM;split
  ·rename_i a;rw[List.pairwise_cons];refine⟨fun q b=>?_,zrJ h.2 fun q b=>hn q (by simp[b])⟩;rcases xaz.1 (zlR.mem_iff.1 b)with rfl|b
   ·exact zjJ.1 a
   ·exact h.1 q b
  ·rename_i a;have a:bLt id p.1:=zn7 (fun c=>a (zjJ.2 c)) (hn p (by simp));rw[List.pairwise_cons,List.pairwise_cons];refine⟨fun q b=>?_,h⟩;rcases xaz.1 b with rfl|b
   ·exact a
   ·exact zkg a (h.1 q b)
theorem zn4{id:ByteArray}:∀{l:List (ByteArray×Int)} {i a:Nat},(∀p∈l,sLt p.1 id=false)->atL id l i a=a
 |[],i,a,_=>rfl
 |p::l,i,a,h=>by
  have:=h p (by simp);simp only[atL,this,xau,if_false];exact zn4 fun q b=>h q (by simp[b])
theorem zn3{id:ByteArray}{t:Int}:∀{l:List (ByteArray×Int)} {i:Nat},(l.Pairwise fun p q=>bLt p.1 q.1)->(∀p∈l,p.1≠id)->∃k,atL id l i i=i+k/\(l.take k++[(id,t)])++l.drop k=zaM id t l
 |[],i,_,_=>⟨0,rfl,rfl⟩
 |p::l,i,h,hn=>by
  rw[List.pairwise_cons]at h;by_cases a:sLt p.1 id=true
  ·obtain⟨k,g,j⟩:=@zn3 id t l (i+1) h.2 fun q e=>hn q (by simp[e]);refine⟨k+1,?_,?_⟩
   ·simp only[atL,a,if_true,g];omega
   ·simp only[zaM,a,if_true,<-j];simp
  ·have b:bLt id p.1:=zn7 (fun f=>a (zjJ.2 f)) (hn p (by simp));have c:sLt p.1 id=false:=by simpa using a
   refine⟨0,?_,?_⟩
   ·simp only[atL,c,xau,if_false];refine zn4 fun q e=>?_;have:=zkg b (h.1 q e);rw[Bool.eq_false_iff];intro f;exact List.lt_irrefl _ (zkg this (zjJ.1 f))
   ·simp[zaM,c]
theorem zsj{id:ByteArray}:∀{l:List (ByteArray×Int)},lookC id l=none->∀p∈l,p.1≠id
 |[],_,p,hp=>by cases hp
 |q::l,h,p,hp=>by
  simp only[lookC]at h;split at h
  ·cases h
  ·rename_i a;rcases xaz.1 hp with rfl|hp
   ·exact a
   ·exact zsj h p hp
theorem RelP.ins{b a:List (ByteArray×Int)}(h:RelP b a){id:ByteArray}{t:Int}(c:lookC id b=none):RelP (setC id t b) (insR id t a):=by
 have e:=zsj (l:=a) (id:=id) (by rw[h.look];exact c);obtain⟨k,f,g⟩:=@zn3 id t a 0 h.so e;unfold insR;rw[f,Nat.zero_add,g,zuF c];exact⟨(zlR.trans ((h.pm.cons _))).trans (List.perm_append_comm (l₁:=[(id,t)])),zrJ h.so e⟩
theorem RelP.seen{b c:List (ByteArray×Int)}(h:RelP b c)(room:Int)(id:ByteArray)(t now:Int):(seenR room c id t now).1=(seenC room b id t now).1/\RelP (seenC room b id t now).2 (seenR room c id t now).2:=by
 have a:=h.live now;unfold seenR seenC;split
 ·exact⟨rfl,h⟩
 ·rw[a.look];cases e:lookC id (liveC now b)with
  |some old=>exact⟨rfl,a.set e⟩
  |none=>
   simp only;rw[a.pm.length_eq];split
   ·exact⟨rfl,a⟩
   ·exact⟨rfl,a.ins e⟩
end Abs.Rp
namespace Abs
open Go
theorem ztC{id:ByteArray}:∀{l:List (ByteArray×Int)},Rf.lookC id l=Rp.lookC id l
 |[]=>rfl
 |p::l=>by rw[Rf.lookC,Rp.lookC,ztC]
theorem ztD{id:ByteArray}{v:Int}:∀{l:List (ByteArray×Int)},Rf.setC id v l=Rp.setC id v l
 |[]=>rfl
 |p::l=>by rw[Rf.setC,Rp.setC,ztD]
theorem ztB{id:ByteArray}:∀{l:List (ByteArray×Int)} {i a:Nat},Rf.atL id l i a=Rp.atL id l i a
 |[],_,_=>rfl
 |p::l,i,a=>by rw[Rf.atL,Rp.atL,ztB]
theorem zHM{room:Int}{l:List (ByteArray×Int)}{id:ByteArray}{t now:Int}:Rf.seenR room l id t now=Rp.seenR room l id t now:=by
 unfold Rf.seenR Rp.seenR;have h:Rf.liveC now l=Rp.liveC now l:=rfl;rw[h,ztC];unfold Rf.insR Rp.insR;simp only[ztD,ztB];split
 ·rfl
 ·cases Rp.lookC id (Rp.liveC now l)<;>rfl
theorem zry:Rp.HasR AA:=⟨a50,a51,a53⟩
structure Lop where
 kb:Nat
 ub:Nat
 cid:Nat
 mid:Nat
 lc:List (ByteArray×Int)
 iv:AV
def kH(cid mid x:Nat):Prop:=x=cid\/x=mid
structure yu(us:List Us)(sv:List AV)(i:Nat)(S:AS)(k:Nat)(L:Lop)(K:Kd)(R:List (List AV)):Prop where
 hh:S.heap k=some (.rows 11 [K.row L.kb L.cid L.iv])
 b:jC S L.kb L.ub us sv i K.u
 c:Rp.IsCache S L.cid L.mid K.room L.lc
 rel:Rp.RelP L.lc K.cache
 gv:GV S 6 L.iv R
 ro:S.ro<=k
 lt:k<S.n
 d1:∀x,qD L.kb L.ub sv x->x≠k/\¬kH L.cid L.mid x/\¬yO L.iv x
 d2:∀x,kH L.cid L.mid x->x≠k/\¬yO L.iv x
 d3:¬yO L.iv k
def yn(k:Nat)(L:Lop)(sv:List AV)(x:Nat):Prop:=x=k\/qD L.kb L.ub sv x\/kH L.cid L.mid x\/yO L.iv x
section
variable{S S':AS}{cid mid:Nat}{room:Int}{l:List (ByteArray×Int)}
theorem Rp.IsCache.keep(h:Rp.IsCache S cid mid room l)(e:S'.ro=S.ro)(a:S.n<=S'.n)(b:∀x,x<S.n->kH cid mid x->S'.heap x=S.heap x):Rp.IsCache S' cid mid room l:=
 ⟨(b _ h.ltc (.inl rfl)).trans h.c,(b _ h.ltm (.inr rfl)).trans h.m,by rw[e];exact h.ro,xan h.ltc a,xan h.ltm a⟩
theorem Rp.IsCache.lts(h:Rp.IsCache S cid mid room l){x:Nat}(a:kH cid mid x):x<S.n:=by
 rcases a with rfl|rfl
 ·exact h.ltc
 ·exact h.ltm
theorem zJM(h:Rp.IsCache S cid mid room l){b:List (ByteArray×Int)}{n:Nat}:Chg S (Rp.setM S mid b n) (kH cid mid) (kH cid mid):=
 ⟨rfl,Nat.le_add_right _ _,fun x _ a=>⟨if_neg fun e=>a (.inr e),a⟩⟩
end
section
variable{us:List Us}{sv:List AV}{i:Nat}{S S':AS}{k:Nat}{L:Lop}{K:Kd}{R:List (List AV)}
theorem yu.hS(h:yu us sv i S k L K R):S.ro<=S.n:=by have:=h.ro;have:=h.lt;omega
theorem yu.at_(h:yu us sv i S k L K R):qU us sv i S k L.kb L.ub L.cid L.iv K:=⟨h.hh,h.b.toAtBp⟩
theorem yu.own_lt(h:yu us sv i S k L K R){x:Nat}(a:yn k L sv x):x<S.n:=by
 rcases a with rfl|a|a|a
 ·exact h.lt
 ·exact h.b.lts a
 ·exact h.c.lts a
 ·exact(h.gv.lt a).1
theorem yu.keep(h:yu us sv i S k L K R)(f:S'.ro=S.ro)(g:S.n<=S'.n)(j:∀x,x<S.n->yn k L sv x->S'.heap x=S.heap x):yu us sv i S' k L K R:=
 ⟨(j k h.lt (.inl rfl)).trans h.hh,h.b.keep f g fun x a e=>j x a (.inr (.inl e)),h.c.keep f g fun x a e=>j x a (.inr (.inr (.inl e))),h.rel,h.gv.keep f g fun x a e=>j x a (.inr (.inr (.inr e))),
   by rw[f];exact h.ro,xan h.lt g,h.d1,h.d2,h.d3⟩
theorem yu.same(h:yu us sv i S k L K R){S':AS}(b:S'.ro=S.ro)(c:S.n<=S'.n)(e:∀j,j<S.n->S'.heap j=S.heap j):yu us sv i S' k L K R/\Chg S S' (yn k L sv) (yn k L sv):=
 ⟨h.keep b c fun x a _=>e x a,b,c,fun x a f=>⟨e x a,f⟩⟩
theorem yu.upB(h:yu us sv i S k L K R){u':Us}(m:jC S' L.kb L.ub us sv i u')(n:Chg S S' (qD L.kb L.ub sv) (qD L.kb L.ub sv)):yu us sv i S' k L {K with u:=u'} R/\Chg S S' (yn k L sv) (yn k L sv):=by
 obtain⟨a,b,f⟩:=n;refine⟨⟨(f k h.lt fun e=>(h.d1 k e).1 rfl).1.trans h.hh,m,h.c.keep a b fun x g j=>(f x g fun e=>(h.d1 x e).2.1 j).1,h.rel,h.gv.keep a b fun x g j=>(f x g fun e=>(h.d1 x e).2.2 j).1,
  by rw[a];exact h.ro,xan h.lt b,h.d1,h.d2,h.d3⟩,?_⟩
 exact Chg.big ⟨a,b,f⟩ (fun x e=>.inr (.inl e)) fun x e=>.inr e
theorem yu.upC(h:yu us sv i S k L K R){c a:List (ByteArray×Int)}(q:Rp.IsCache S' L.cid L.mid K.room c)(f:Rp.RelP c a)(r:Chg S S' (kH L.cid L.mid) (kH L.cid L.mid)):
 yu us sv i S' k {L with lc:=c} {K with cache:=a} R/\Chg S S' (yn k L sv) (yn k L sv):=by
 obtain⟨g,j,m⟩:=r;have s:¬kH L.cid L.mid k:=fun e=>(h.d2 k e).1 rfl;refine⟨⟨(m k h.lt s).1.trans h.hh,h.b.keep g j fun x n o=>(m x n (h.d1 x o).2.1).1,q,f,h.gv.keep g j fun x n o=>(m x n fun e=>(h.d2 x e).2 o).1,
  by rw[g];exact h.ro,xan h.lt j,h.d1,h.d2,h.d3⟩,Chg.big ⟨g,j,m⟩ (fun x e=>.inr (.inr (.inl e))) fun x e=>.inr e⟩
theorem yu.st(h:yu us sv i S k L K R){col:Nat}{v:AV}{K':Kd}{iv':AV}(b:v.cells=[v])(c:v.isCell=true)(e:setCells (K.row L.kb L.cid L.iv) col [v]=K'.row L.kb L.cid iv')(a:col+1<=11)(d:Option Nat)(rg:Nat->Option (List AV)):
 ze (.st none 1) d rg S [.ptr k 0 col,v]=some (.junk,none,S.set k (some (.rows 11 [K'.row L.kb L.cid iv']))):=by
 simp only[ze,h.hh,b];rw[if_pos ⟨h.ro,by simp[c],rfl⟩];simp only[xas,xae];rw[if_pos (show col+1<=(K.row L.kb L.cid L.iv).length from a),e];rfl
theorem yu.upK(h:yu us sv i S k L K R){K':Kd}(j:K'.u=K.u)(m:K'.cache=K.cache)(f:K'.room=K.room):yu us sv i (S.set k (some (.rows 11 [K'.row L.kb L.cid L.iv]))) k L K' R/\Chg S (S.set k (some (.rows 11 [K'.row L.kb L.cid L.iv]))) (yn k L sv) (yn k L sv):=by
 refine⟨⟨if_pos rfl,by rw[j];exact h.b.keep rfl (xad _) fun x _ a=>if_neg (h.d1 x a).1,by rw[f];exact h.c.keep rfl (xad _) fun x _ a=>if_neg (h.d2 x a).1,by rw[m];exact h.rel,h.gv.keep rfl (xad _) fun x _ a=>if_neg fun e:x=k=>h.d3 (e▸a),
  h.ro,h.lt,h.d1,h.d2,h.d3⟩,rfl,xad _,fun x _ g=>⟨if_neg fun e=>g (.inl e),g⟩⟩
theorem yu.issue(h:yu us sv i S k L K R){r:List AV}{f:Bool}(C:R.length<=1000):∃g j S',(∀d rg,ze (.append 6 104) d rg S [L.iv,.lst 6 f [r]]=some (g,none,j))/\g.isReg=false/\(∀d rg,ze (.st none 1) d rg j [.ptr k 0 10,g]=some (.junk,none,S'))/\
 yu us sv i S' k {L with iv:=g} K (R++[r])/\Chg S S' (yn k L sv) (yn k {L with iv:=g} sv):=by
 obtain⟨g,j,z,s,q,t,m⟩:=h.gv.app h.hS (r:=r) (bytes:=104) (f:=f) (by omega);have u:=m k h.lt h.d3;have w:j.heap k=some (.rows 11 [K.row L.kb L.cid L.iv]):=u.1.trans h.hh;have B:∀x,qD L.kb L.ub sv x->x≠k/\¬kH L.cid L.mid x/\¬yO g x:=fun x a=>⟨(h.d1 x a).1,(h.d1 x a).2.1,(m x (h.b.lts a) (h.d1 x a).2.2).2⟩;have y:∀x,kH L.cid L.mid x->x≠k/\¬yO g x:=fun x a=>⟨(h.d2 x a).1,(m x (h.c.lts a) (h.d2 x a).2).2⟩;refine⟨g,j,j.set k (some (.rows 11 [K.row L.kb L.cid g])),z,s.reg,fun d rg=>?_,⟨if_pos rfl,h.b.keep q t fun x a n=>(if_neg (h.d1 x n).1).trans (m x a (h.d1 x n).2.2).1,h.c.keep q t fun x a n=>(if_neg (h.d2 x n).1).trans (m x a (h.d2 x n).2).1,h.rel,
  s.keep rfl (xad _) fun x _ n=>if_neg fun e:x=k=>u.2 (e▸n),by rw[show(j.set k _).ro=j.ro from rfl,q];exact h.ro,xan h.lt t,B,y,u.2⟩,q,t,fun x a o=>⟨?_,?_⟩⟩
 ·simp only[ze,w,s.cells];rw[if_pos ⟨by rw[q];exact h.ro,by simp[s.cell],rfl⟩];rfl
 ·exact(if_neg fun e=>o (.inl e)).trans (m x a fun e=>o (.inr (.inr (.inr e)))).1
 ·rintro(e|e|e|e)
  ·exact o (.inl e)
  ·exact o (.inr (.inl e))
  ·exact o (.inr (.inr (.inl e)))
  ·exact(m x a fun e=>o (.inr (.inr (.inr e)))).2 e
theorem zi8(h:yu us sv i S k L K R)(o:0<=K.n/\K.n<4611686018427387904):∃S',call 379 [.ptr k 0 0] S=some (.agg (zQ (K.n+1)).cells,S')/\yu us sv i S' k L {K with n:=K.n+1} R/\Chg S S' (yn k L sv) (yn k L sv):=by
 rw[z8 zxQ (by simp) rfl];have f:IntKind.i64.wrap (K.n+1)=K.n+1:=w64 (by omega);have b:=h.st (col:=9) (v:=.sc (.int .i64 (K.n+1))) (K':={K with n:=K.n+1}) (iv':=L.iv) rfl rfl rfl (by omega);obtain⟨e,g⟩:=h.upK (K':={K with n:=K.n+1}) rfl rfl rfl;generalize S.set k _=S' at *;have c:=e.at_.nn;have j:=vN (n:=K.n+1) (by omega) (by omega);have a:=fun S=>@zbY S (K.n+1) (by unfold inI;omega);have m:pev (.bin .add) [.s ⟨#[107,100,99,32]⟩,.sc (.string (zE (K.n+1)))]=some (.sc (.string (⟨#[107,100,99,32]⟩++zE (K.n+1)))):=yz (by show 4+_<=_;omega);refine⟨S',?_,e,g⟩;simp[zig,zqz,h.at_.nn,f,b,c,a,m,zj];rfl
theorem k51(h:yu us sv i S k L K R){id:ByteArray}{t now:Int}:∃S' b,call 51 [.ptr L.cid 0 0,.sc (.string id),.sc (.int .i64 t),.sc (.int .i64 now)] S=some (.sc (.int .i64 (Rf.seenR K.room K.cache id t now).1),S')/\
 yu us sv i S' k {L with lc:=b} {K with cache:=(Rf.seenR K.room K.cache id t now).2} R/\Chg S S' (yn k L sv) (yn k L sv):=by
 have a:=Rp.seen_spec zry h.c (id:=id) (t:=t) (now:=now);obtain⟨f,g⟩:=h.rel.seen K.room id t now;rw[zHM,f];by_cases e:t<=now
 ·rw[if_pos e]at a;have j:Rp.seenR K.room K.cache id t now=(5,K.cache):=by unfold Rp.seenR;rw[if_pos e]
  refine⟨S,L.lc,a,?_,Chg.refl⟩;rw[j];exact h
 ·rw[if_neg e]at a;obtain⟨m,n⟩:=h.upC (h.c.setM (Rp.seenC K.room L.lc id t now).2 1) g (zJM h.c);exact⟨_,_,a,m,n⟩
end
section
variable{x:Tlk}{p:T}{dv:AV}
@[simp] theorem Tlk.pc_length:(x.pc p dv).length=32:=rfl
@[simp] theorem Tlk.p_all:List.take 32 (x.pc p dv)=x.pc p dv:=rfl
@[simp] theorem Tlk.p_client:List.take 1 (x.pc p dv)=[.sc (.string x.c.client)]:=rfl
@[simp] theorem Tlk.p_nonce:List.take 1 (List.drop 1 (x.pc p dv))=[.sc (.string x.c.nonce)]:=rfl
@[simp] theorem Tlk.p_nonce':List.take 1 (x.pc p dv).tail=[.sc (.string x.c.nonce)]:=rfl
@[simp] theorem Tlk.p_done:List.take 1 (List.drop 2 (x.pc p dv))=[dv]:=rfl
@[simp] theorem Tlk.p_secret:List.take 3 (List.drop 3 (x.pc p dv))=x.c.secret.cells:=by rw[zq];rfl
@[simp] theorem Tlk.p_c:List.take 7 (x.pc p dv)=ckX x.c dv:=rfl
@[simp] theorem Tlk.p_ak:List.take 3 (List.drop 7 (x.pc p dv))=x.ak.cells:=by rw[zq];rfl
@[simp] theorem Tlk.p_body:List.take 3 (List.drop 10 (x.pc p dv))=x.body.cells:=by rw[zq];rfl
@[simp] theorem Tlk.p_p:List.take 3 (List.drop 13 (x.pc p dv))=p.cells:=by rw[zq];rfl
@[simp] theorem Tlk.p_key:List.take 3 (List.drop 17 (x.pc p dv))=x.u.key.cells:=by rw[zq];rfl
@[simp] theorem Tlk.p_set:List.take 1 (List.drop 20 (x.pc p dv))=[zk x.u.set]:=rfl
@[simp] theorem Tlk.p_seed:List.take 3 (List.drop 21 (x.pc p dv))=x.u.seed.cells:=by rw[zq];rfl
@[simp] theorem Tlk.p_tok:List.take 6 (List.drop 24 (x.pc p dv))=x.u.tok.cells:=rfl
@[simp] theorem Tlk.p_now:List.take 1 (List.drop 31 (x.pc p dv))=[.sc (.int .i64 x.now)]:=rfl
@[simp] theorem Tlk.p_now':List.drop 31 (x.pc p dv)=[.sc (.int .i64 x.now)]:=rfl
@[simp] theorem Tlk.ps_secret{s:T}:List.take 3 (x.pc p dv)++(s.cells++List.drop 6 (x.pc p dv))=({x with c:={x.c with secret:=s}}:Tlk).pc p dv:=by rw[zq];rfl
@[simp] theorem Tlk.ps_upto{n:Int}:List.take 6 (x.pc p dv)++.sc (.int .i64 n)::List.drop 7 (x.pc p dv)=({x with c:={x.c with upto:=n}}:Tlk).pc p dv:=rfl
theorem Tlk.pc_nrm'(h:dv.nrm=dv):yL (x.pc p dv)=x.pc p dv:=by unfold Tlk.pc;simp[h]
end
section
variable{S:AS}
theorem zjE{x:Tlk}{p:T}{o:Nat->Prop}{dv:AV}{nx:ByteArray}(a:DV S o dv x.c.done)(b:x.u.set[x.c.done.length]?=some nx):call 291 [.agg (x.pc p dv)] S=some (.sc (.string nx),S):=by
 rw[kr zwX (args':=[.agg (x.pc p dv)]) (by simp) (by simp[Tlk.pc_nrm' a.nrm]) rfl];have f:=@Tlk.pc_cell x p dv a.cell;have g:=a.len;have h:=a.reg;have e:=wb b;simp[zhE,zp5,f,g,h,e]
theorem q68{x:AV}{l:List ByteArray}(w:vk S x l)(O:∀s∈l,s.size<=4611686018427387904)(P:l.length*48<=140737488355328):call 68 [x] S=some (.agg (zS (jp l)).cells,S):=by
 have Q:=w.reg;rw[kr a68 (args':=[x.nrm]) (by simp[Q]) (by simp) rfl];have u:=w.nrm;have a:=w.nn;generalize x.nrm=y at u a;have j:=u.reg;have m:=u.len;rw[a]at m;simp only[f68];simp[-zg,zq2,j,m];rw[show(some (AV.agg (zS (jp l)).cells,S):Option (AV×AS))=zW S (some (AV.agg (zS (jp l)).cells,S))by simp]
 let S0:AS:=⟨S.heap,S.n,S.n⟩
 refine y8 (α:=Nat) (R:=fun _ r=>zW S r=zW S (some (.agg (zS (jp l)).cells,S))) (fun i e rg S'=>i<=l.length/\e 2=.reg 2 0/\rg 2=some zT/\e 6=y/\e 7=.sc (.int .i64 (l.length:Nat))/\e 8=.sc (.int .i64 (i:Nat))/\Own S0 S' 3 (e 3) ((jp (l.take i)).map T.cells)) (fun i=>l.length-i) ?_ 0 _ _ _ ?_;rotate_left
 ·refine⟨by omega,by simp,by simp[zT],by simp,by simp,by simp,?_⟩;simp;exact zcB (xad _)
 intro Z z i e rg S' ⟨hi,I,o,J,B,M,g⟩ ih;by_cases N:i<l.length
 ·obtain⟨t,C⟩:=yV N;obtain⟨pt,q,D,b⟩:=u.at C;rw[a]at q;have b:=b S' (fun id E=>g.old.heap id E);have F:=O t (xaj C);obtain⟨v',U,V,G,W,q2,q3⟩:=g.push (n:=i) (bytes:=48) (r:=(yU t).cells) (f:=true) (d:=some 16) (rg:=rg) (by simp[jp];omega) (by omega);have X:IntKind.i64.wrap ((i:Int)+1)=((i+1:Nat):Int):=w64 (by omega);have c:=g.reg;simp[-zg,zly,J,B,M,N,q,D,b,j,s64 F,c,V,X,W,zj];refine ih (i+1) _ _ _ (by omega) (fun _ h=>h) ?_;refine⟨by omega,by simp[I],by simp[o],by simp[J],by simp[B],by simp,?_⟩;simp;have:(jp (l.take (i+1))).map T.cells=(jp (l.take i)).map T.cells++[(yU t).cells]:=by
   unfold jp;rw[xav,C];simp
  rw[this];exact G
 ·have H:i=l.length:=by omega
  subst H;rw[xax]at g;simp[-zg,zly,B,M];rw[z];have c:=g.reg;have Y:=zdY g.isTs (by unfold jp;rw[xaH];exact P);simp[I,o,c,Y,zT]
end
def prC(b:T)(v:AV):List AV:=[.sc (.int .i64 b.kind),.sc (.string b.name),zh b.kids,v]
theorem ztd{b:T}{v:AV}:(prC b v).length=4:=rfl
theorem zGB{b:T}{v:AV}(h:v.isCell=true):(prC b v).all AV.isCell=true:=by unfold prC;simp[h]
@[simp] theorem zGA{b:T}{v:AV}:List.take 3 (prC b v)=b.cells:=by rw[zq];rfl
@[simp] theorem zOa{b:T}{v:AV}:List.take 1 (List.drop 3 (prC b v))=[v]:=rfl
@[simp] theorem zOb{b:T}{v:AV}:List.drop 3 (prC b v)=[v]:=rfl
section
variable{S:AS}
theorem zJn{x:Tlk}{p:T}{nx:ByteArray}(m:x.u.set[x.c.done.length]?=some nx)(q:isM nx)(hp:p.lo)(z:x.c.secret.lo)(B:x.now.natAbs<=1000000000000000):
 call 381 [.agg (x.pc p (zk x.c.done))] S=some (.tup [.agg (prC (yH x p nx).1 (yi (yH x p nx).2.1)),.sc (.int .i64 (yH x p nx).2.2)],S):=by
 rw[kr zxS (args':=[.agg (x.pc p (zk x.c.done))]) (by simp) (by simp[Tlk.pc_nrm]) rfl];have s:=@Tlk.pc_cell x p (zk x.c.done) rfl;have a:∀S,call 291 [.agg (x.pc p (zk x.c.done))] S=some (.sc (.string nx),S):=fun S=>zjE (o:=fun _=>False) (.inl rfl) m;unfold yH;rcases q with rfl|rfl|rfl
 ·rw[if_neg (by decide),if_neg (by decide)];have e:=fun S=>@zIz S x.ak x.u.key x.body p x.now hp.bb B;unfold zr at a;have t:((⟨#[99,104,97,108,108,101,110,103,101]⟩:ByteArray)=⟨#[111,116,112]⟩)=False:=eq_false (by decide);have C:((⟨#[99,104,97,108,108,101,110,103,101]⟩:ByteArray)=⟨#[115,112,97,107,101]⟩)=False:=eq_false (by decide);have h:=zq x.u.key;rw[h]at e;simp[zdq,zii,s,a,t,C,e,zj,prC,h];rfl
 ·rw[if_pos rfl];have b:=fun S=>@zIF S x.ak x.c.secret p x.u.seed x.u.tok hp.bb;have j:=fun S=>@zjG S x.ak 46 i46;rw[zAV]at b;unfold yg at a;have h:=zq (jy x.ak 46);generalize kY x.ak x.c.secret p x.u.seed x.u.tok=r at *;unfold qf at b;simp[zdq,zii,s,a,b,j,zj,prC,h]
 ·rw[if_neg (by decide),if_pos rfl];have g:=fun S=>@zID S x.u.key x.body x.c.secret p hp.bb (fun l f y D E=>by
   have F:=(jO (n:=2) D).2;have G:l.lo:=hp.kid (F l (by simp));have w:=zkL (u:=x.u.key) G;rw[E]at w;exact zJR w z)
  unfold yo at a;have t:((⟨#[115,112,97,107,101]⟩:ByteArray)=⟨#[111,116,112]⟩)=False:=eq_false (by decide);generalize zau x.u.key x.body x.c.secret p=r at *;unfold zt at g;have h:=zq r.1;simp[zdq,zii,s,a,t,g,zj,prC,h];rfl
end
section
variable{us:List Us}{sv:List AV}{i:Nat}{S:AS}{k:Nat}{L:Lop}{K:Kd}{R:List (List AV)}
theorem zr4(h:yu us sv i S k L K R)(U:0<=K.n/\K.n<4611686018427387904)(V:K.cookies.lo){x:Tlk}(z:x.okk){p:T}{dv:AV}(m:DV S (yn k L sv) dv x.c.done){nx:ByteArray}(I:x.u.set[x.c.done.length]?=some nx)(J:isM nx):
 ∃S',call 289 [.ptr k 0 0,.agg (x.pc p dv)] S=some (.agg (K.offT x nx).cells,S')/\yu us sv i S' k L (K.offK nx) R/\Chg S S' (yn k L sv) (yn k L sv):=by
 rw[z8 zwV (by simp) rfl];have a:=zjE (p:=p) m I;have M:IntKind.i64.wrap (x.now+100)=x.now+100:=w64 (by have:=z.now;omega);have xc:=fun s:T=>@Tlk.pc_cell ({x with c:={x.c with secret:=s}}:Tlk) p dv m.cell;have q:=fun(s:T) (n:Int)=>@Tlk.pc_cell ({x with c:={x.c with secret:=s,upto:=n}}:Tlk) p dv m.cell;have r:=@Tlk.pc_cell x p dv m.cell;have e:=fun S t=>@zuq S x.ak t x.c.nonce (by have:=z.nonce;omega);have N:∀(S:AS) (o c:T),call 62 [.sc (.string ⟨#[109,111,114,101]⟩),.lst 3 true [o.cells,c.cells]] S=some (.agg (zG jQ [o,c]).cells,S):=fun S o c=>p62 (k9 (l:=[o,c])) (by show 3*48<=_;omega);have w:K.cookies.fits:=T.fits_bulk V;have y:=T.ofit_bulk V;rcases J with rfl|rfl|rfl
 ·have B:K.offK zr=K:=if_pos rfl;have C:K.offS zr=zw:=if_pos rfl;have D:jH x.u zr zw=zG zr []:=if_pos rfl;unfold Kd.offT;rw[B,C,D];refine⟨S,?_,h,Chg.refl⟩;unfold zr at a;have b:call 109 [.agg K.cookies.cells,.agg (ckX ⟨x.c.client,x.c.nonce,x.c.done,zw,x.now+100⟩ dv)] S=some (.agg (yJ K.cookies (K.offC x zw)).cells,S):=zjo (c:=K.offC x zw) m.ss w y (z.ck K zjP);have O:∀S,call 62 [.sc (.string ⟨#[99,104,97,108,108,101,110,103,101]⟩),.lst 0 true []] S=some (.agg (zG zr []).cells,S):=fun S=>p62 zft (by show 1*48<=_;omega);have P:((⟨#[99,104,97,108,108,101,110,103,101]⟩:ByteArray)=⟨#[111,116,112]⟩)=False:=eq_false (by decide);have W:((⟨#[99,104,97,108,108,101,110,103,101]⟩:ByteArray)=⟨#[115,112,97,107,101]⟩)=False:=eq_false (by decide);simp[zdi,zhD,zj,r,xc,q,a,P,W,M,O,h.at_.cookies,b,N,e];rfl
 ·have B:K.offK yg={K with n:=K.n+1}:=if_neg (by decide);have C:K.offS yg=zQ (K.n+1):=if_neg (by decide);have D:∀s,jH x.u yg s=wP s:=fun s=>by unfold jH;rw[if_neg (by decide),if_neg (by decide)]
  obtain⟨f,g,E,F⟩:=zi8 h U;unfold Kd.offT;rw[B,C,D];have Q:(zQ (K.n+1)).lo:=zkG (by omega) (by omega);generalize zQ (K.n+1)=s at *;have j:∀d rg,ze (.ld none 3 true) d rg f [.ptr k 0 3]=some (.agg K.cookies.cells,none,f):=E.at_.cookies;have b:call 109 [.agg K.cookies.cells,.agg (ckX ⟨x.c.client,x.c.nonce,x.c.done,s,x.now+100⟩ dv)] f=some (.agg (yJ K.cookies (K.offC x s)).cells,f):=zjo (c:=K.offC x s) (m.keep F).ss w y (z.ck K Q);have G:=fun S=>@zIE S s;unfold yg at a;refine⟨f,?_,E,F⟩;simp[zdi,zhD,zj,r,xc,q,a,M,g,G,j,b,N,e];rfl
 ·have B:K.offK yo={K with n:=K.n+1}:=if_neg (by decide);have C:K.offS yo=zQ (K.n+1):=if_neg (by decide);have D:∀s,jH x.u yo s=zej x.u.key s:=fun s=>by unfold jH;rw[if_neg (by decide),if_pos rfl]
  obtain⟨f,g,E,F⟩:=zi8 h U;unfold Kd.offT;rw[B,C,D];have Q:(zQ (K.n+1)).lo:=zkG (by omega) (by omega);generalize zQ (K.n+1)=s at *;have j:∀d rg,ze (.ld none 3 true) d rg f [.ptr k 0 3]=some (.agg K.cookies.cells,none,f):=E.at_.cookies;have b:call 109 [.agg K.cookies.cells,.agg (ckX ⟨x.c.client,x.c.nonce,x.c.done,s,x.now+100⟩ dv)] f=some (.agg (yJ K.cookies (K.offC x s)).cells,f):=zjo (c:=K.offC x s) (m.keep F).ss w y (z.ck K Q);have H:=fun S=>@zIC S x.u.key s;unfold yo at a;have P:((⟨#[115,112,97,107,101]⟩:ByteArray)=⟨#[111,116,112]⟩)=False:=eq_false (by decide);refine⟨f,?_,E,F⟩;simp[zdi,zhD,zj,r,xc,q,a,P,M,g,H,j,b,N,e];rfl
end
theorem DV.setA{S:AS}{o:Nat->Prop}{dv:AV}{l:List ByteArray}(h:DV S o dv l):j8 S dv l:=by
 rcases h with h|⟨id,a,b,c,_⟩
 ·exact .inl h
 ·exact .inr ⟨id,a,b,c⟩
section
variable{us:List Us}{sv:List AV}{i:Nat}{S:AS}{k:Nat}{L:Lop}{K:Kd}{R:List (List AV)}
theorem zBv(h:yu us sv i S k L K R)(hn:0<=K.n/\K.n<4611686018427387900)(hR:R.length<=1000){x:Tlk}(y:x.okk){p:T}{dv:AV}(z:DV S (yn k L sv) dv x.c.done)(O:x.c.client=K.u.name){base:T}:
 ∃S' B id,call 292 [.ptr k 0 0,.agg (x.pc p dv),.agg base.cells] S=some (.agg (K.tktT x base).cells,S')/\yu us sv i S' k {L with iv:=B} K.tktK (R++[jP x.c.client x.c.nonce (.arr id 1 0 x.c.done.length none) (zQ (K.n+1))])/\Chg S S' (yn k L sv) (yn k {L with iv:=B} sv)/\
  S'.heap id=some (.rows 1 (zv x.c.done))/\S.n<=id/\id<S'.n/\¬yn k {L with iv:=B} sv id:=by
 rw[z8 zwY (by simp) rfl];have xc:=@Tlk.pc_cell x p dv z.cell;obtain⟨S1,d1,h1,P⟩:=zi8 h (by omega);obtain⟨M,Q,U,V⟩:=zi8 h1 ⟨by show 0<=K.n+1;omega,by show K.n+1<_;omega⟩;have Q:call 379 [.ptr k 0 0] S1=some (.agg (zQ (K.n+1+1)).cells,M):=Q;have W:jC M L.kb L.ub us sv i K.u:=U.b;obtain⟨m,d3,b3,X⟩:=zBB W;obtain⟨N,Y⟩:=U.upB b3 X;have Z:=z.keep (P.trans (V.trans Y));have q:=zgr Z.setA (by have:=y.done;omega);obtain⟨o,g⟩:∃o,o=m.new (.rows 1 (zv x.c.done)):=⟨_,rfl⟩;rw[<-g]at q;have aq:o.n=m.n+1:=by rw[g];rfl
 have aa:o.heap m.n=some (.rows 1 (zv x.c.done)):=by rw[g];exact jX
 obtain⟨ab,ac⟩:=N.same (S':=o) (by rw[g];rfl) (by omega) (fun j hj=>by rw[g];exact if_neg (by omega));have ad:¬yn k L sv m.n:=fun e=>by have:=N.own_lt e;omega
 obtain⟨B,ar,C,ha,ae,af,h4,g4⟩:=ab.issue (r:=jP x.c.client x.c.nonce (.arr m.n 1 0 x.c.done.length none) (zQ (K.n+1))) (f:=true) hR;have ag:∀d rg,ze (.ld none 1 false) d rg M [.ptr k 0 6]=some (.ptr L.kb 0 0,none,M):=U.at_.users;have ah:∀d rg,ze (.ld none 1 false) d rg m [.ptr k 0 10]=some (L.iv,none,m):=N.at_.issued;have ai:∀d rg,ze (.ld none 3 true) d rg C [.ptr k 0 0]=some (.agg K.key.cells,none,C):=h4.at_.key;have gT:Chg S C (yn k L sv) (yn k {L with iv:=B} sv):=P.trans (V.trans (Y.trans (ac.trans g4)));have aj:=q68 (z.keep gT).ss (fun s hs=>by have:=y.names s hs;omega) (by have:=y.done;omega);rw[<-O]at d3;have al:=@zoe x.c.client x.c.nonce (.arr m.n 1 0 x.c.done.length none) (zQ (K.n+1)) rfl rfl;have am:(jP x.c.client x.c.nonce (.arr m.n 1 0 x.c.done.length none) (zQ (K.n+1))).all AV.isCell=true:=by
  unfold jP;rw[zq];rfl
 have D:(jP x.c.client x.c.nonce (.arr m.n 1 0 x.c.done.length none) (zQ (K.n+1))).length=6:=by
  unfold jP;rw[zq];rfl
 have an:List.take 6 (jP x.c.client x.c.nonce (.arr m.n 1 0 x.c.done.length none) (zQ (K.n+1)))=jP x.c.client x.c.nonce (.arr m.n 1 0 x.c.done.length none) (zQ (K.n+1)):=by rw[<-D,xax]
 have w:=g4.2.2 m.n (by omega) ad;refine⟨C,B,m.n,?_,h4,gT,w.1.trans aa,?_,?_,w.2⟩
 ·generalize jP x.c.client x.c.nonce (.arr m.n 1 0 x.c.done.length none) (zQ (K.n+1))=I at *;have dc:=z.cells;have as:=z.cell;have dr:=z.reg;have ao:=N.gv.reg;have E:=fun S=>@s64 S x.c.client (by have:=y.client;omega);have F:=fun S=>@s64 S x.c.nonce (by have:=y.nonce;omega);have ap:=fun S=>@s66 S x.now (by have:=y.now;unfold inI;omega);have G:=fun S t=>@zuq S x.ak t x.c.nonce (by have:=y.nonce;omega);have H:=fun S k t=>@zmQ S k t 3 (by unfold inI;omega);have J:=fun S=>@zJi S (zQ (K.n+1+1)) base;show _=some (AV.agg (zam x.ak x.c.nonce base (zQ (K.n+1)) (zQ (K.n+1+1)) (tkt K.key x.c.client (zQ (K.n+1)) x.c.done x.now)).cells,C);generalize zQ (K.n+1)=s at *;generalize zQ (K.n+1+1)=s2 at *;have p4:∀(S:AS),call 62 [.sc (.string ⟨#[116,105,99,107,101,116]⟩),.lst 3 true [(yU x.c.client).cells,s.cells,(zS (jp x.c.done)).cells,(qG x.now).cells]] S=some (.agg (zG zf0 [yU x.c.client,s,zS (jp x.c.done),qG x.now]).cells,S):=fun S=>p62 (k9 (l:=[yU x.c.client,s,zS (jp x.c.done),qG x.now])) (by show 5*48<=_;omega);have p3:∀(S:AS) (t:T),call 62 [.sc (.string ⟨#[101,110,99]⟩),.lst 3 true [s.cells,(yU x.c.nonce).cells,t.cells]] S=some (.agg (zG zeD [s,yU x.c.nonce,t]).cells,S):=fun S t=>p62 (k9 (l:=[s,yU x.c.nonce,t])) (by show 4*48<=_;omega);have p2:∀(S:AS) (t:T),call 62 [.sc (.string ⟨#[102,105,110,105,115,104]⟩),.lst 3 true [s2.cells,t.cells]] S=some (.agg (zG zfl [s2,t]).cells,S):=fun S t=>p62 (k9 (l:=[s2,t])) (by show 3*48<=_;omega);have p1:∀(S:AS) (a b c:T),call 62 [.sc (.string ⟨#[97,115,45,114,101,112]⟩),.lst 3 true [a.cells,b.cells,c.cells]] S=some (.agg (zG zjv [a,b,c]).cells,S):=fun S a b c=>p62 (k9 (l:=[a,b,c])) (by show 4*48<=_;omega);unfold zam zjV tkt;simp[-jl,zhF,zp6,zj,zgu,xc,d1,Q,ag,d3,ah,q,al,am,D,an,ao,ha,ae,af,ai,E,F,ap,aj,G,H,J,p1,p2,p3,p4,dr]
 ·have:=P.2.1;have:=V.2.1;have:=Y.2.1;omega
 ·have:=g4.2.1;omega
end
def Kd.tkO(K:Kd)(a:Tk×Int×Int):Int×Kd:=if 5<=K.u.fails then(7,K)else(a.2.2,{K with u:={K.u with tok:=a.1}})
def Kd.tkS(K:Kd)(nx:ByteArray)(r:T×List Int×Int)(s:Int×List (ByteArray×Int)):Int×Kd:=
 if s.1=0 then(if nx=yg then Kd.tkO {K with cache:=s.2} (K.u.tok.accept r.2.1)else(0,{K with cache:=s.2}))else(s.1,{K with cache:=s.2})
def Kd.tkC(K:Kd)(p:T)(nx:ByteArray)(now:Int)(r:T×List Int×Int):Int×Kd:=
 if r.2.2=0 then K.tkS nx r (Rf.seenR K.room K.cache p.txt (now+100+1) now)else(r.2.2,if r.2.2=6 then {K with u:={K.u with fails:=K.u.fails+1}} else K)
noncomputable def Kd.tk(K:Kd)(x:Tlk)(p:T)(nx:ByteArray)(now:Int):Int×Kd:=
 if jo p=nx/\(nx=zr\/yR x.c.secret=false)then K.tkC p nx now (yH x p nx)else(11,K)
theorem zmy{K:Kd}{x:Tlk}{p:T}{nx:ByteArray}{now:Int}(hp:yR p=false):K.reqN x p now nx=if(K.tk x p nx now).1=0 then(K.tk x p nx now).2.reqD (x.more nx) (yH x p nx).1 else(jx (K.tk x p nx now).1,(K.tk x p nx now).2,none):=by
 unfold Kd.tk;by_cases h:jo p=nx/\(nx=zr\/yR x.c.secret=false)
 ·rw[if_pos h,zmx hp h];generalize yH x p nx=r;unfold Kd.reqC Kd.tkC;by_cases a:r.2.2=0
  ·rw[if_pos a,if_pos a];generalize Rf.seenR K.room K.cache p.txt (now+100+1) now=s;unfold Kd.reqS Kd.tkS;by_cases b:s.1=0
   ·rw[if_pos b,if_pos b];by_cases e:nx=yg
    ·rw[if_pos e,if_pos e];unfold Kd.reqO Kd.tkO;by_cases f:5<=K.u.fails
     ·rw[if_pos f,if_pos f];rfl
     ·rw[if_neg f,if_neg f]
    ·rw[if_neg e,if_neg e];rfl
   ·rw[if_neg b,if_neg b];simp only;rw[if_neg b]
  ·rw[if_neg a,if_neg a];simp only;rw[if_neg a]
 ·rw[if_neg h,zmw hp h];rfl
theorem zzF{x:Tlk}{p:T}{nx:ByteArray}:(yH x p nx).2.1.length<=1000000:=by
 have h:∀ak n p s t,(kY ak n p s t).1.length<=73:=by
  intro ak n p s t;unfold kY;split
  ·unfold zbw;split
   ·split
    ·unfold zcv;split
     ·split
      ·exact zrB
      ·simp
     ·simp
    ·simp
   ·simp
  ·simp
 unfold yH;split
 ·exact xaD (h _ _ _ _ _) (by omega)
 ·split<;>simp
section
variable{us:List Us}{sv:List AV}{i:Nat}{S:AS}{k:Nat}{L:Lop}{K:Kd}{R:List (List AV)}
theorem zBu(h:yu us sv i S k L K R)(hK:K.okk){x:Tlk}{p:T}{nx:ByteArray}{now:Int}(Y:x.u.set[x.c.done.length]?=some nx)(ad:isM nx)(hp:p.lo)(hs:x.c.secret.lo)(ai:now.natAbs<=100000000000000)(J:x.now=now)(Z:x.c.client=K.u.name):
 ∃S' lc B,call 290 [.ptr k 0 0,.agg (x.pc p (zk x.c.done))] S=some (.tup [.agg B,.sc (.int .i64 (K.tk x p nx now).1)],S')/\B.length=4/\B.all AV.isCell=true/\((K.tk x p nx now).1=0->B=prC (yH x p nx).1 (yi (yH x p nx).2.1))/\
  yu us sv i S' k {L with lc:=lc} (K.tk x p nx now).2 R/\Chg S S' (yn k L sv) (yn k L sv):=by
 rw[z8 zwW (by simp) rfl];have xc:=@Tlk.pc_cell x p (zk x.c.done) rfl;have f:∀S,call 291 [.agg (x.pc p (zk x.c.done))] S=some (.sc (.string nx),S):=fun S=>zjE (o:=fun _=>False) (.inl rfl) Y;have n:=fun S=>@s81 S p;have r:=fun S=>@s83 S x.c.secret (by have:=T.bb_len hs.bb;omega);have zl:([AV.i 0,.s ⟨#[]⟩,.lst 0 true [],.lst 0 true []]:List AV).length=4:=rfl;unfold Kd.tk;by_cases M:jo p=nx
 case neg=>
  rw[if_neg fun h=>M h.1];have t1:(jo p=nx)=False:=eq_false M;refine⟨S,L.lc,[AV.i 0,.s ⟨#[]⟩,.lst 0 true [],.lst 0 true []],?_,rfl,rfl,fun e=>absurd e (by show ¬(11:Int)=0;decide),h,Chg.refl⟩;simp[qk,vK,xc,f,n,t1,zj]
 have t1:(jo p=nx)=True:=eq_true M;by_cases E:nx=zr\/yR x.c.secret=false
 case neg=>
  rw[if_neg fun h=>E h.2];have n1:(nx=⟨#[99,104,97,108,108,101,110,103,101]⟩)=False:=eq_false fun e=>E (.inl e);have ae:yR x.c.secret=true:=by
   cases N:yR x.c.secret with
   |true=>rfl
   |false=>exact absurd (.inr N) E
  rw[ae]at r;refine⟨S,L.lc,[AV.i 0,.s ⟨#[]⟩,.lst 0 true [],.lst 0 true []],?_,rfl,rfl,fun e=>absurd e (by show ¬(11:Int)=0;decide),h,Chg.refl⟩;simp[qk,vK,xc,f,n,t1,n1,r,zj]
 rw[if_pos ⟨M,E⟩];have g:=fun S=>@zJn S x p nx Y ad hp hs (by rw[J];omega);have aj:smE (yH x p nx).2.2:=zks;have af:(yH x p nx).2.1.length<=1000000:=zzF;generalize yH x p nx=c at *;have pl:=@ztd c.1 (yi c.2.1);have j:=@zGB c.1 (yi c.2.1) rfl;have G:List.take 4 (prC c.1 (yi c.2.1))=prC c.1 (yi c.2.1):=rfl;have ak:∃b:Bool,(nx=⟨#[99,104,97,108,108,101,110,103,101]⟩/\b=true)\/(¬nx=⟨#[99,104,97,108,108,101,110,103,101]⟩/\b=false/\yR x.c.secret=false):=by
  by_cases N:nx=⟨#[99,104,97,108,108,101,110,103,101]⟩
  ·exact⟨true,.inl ⟨N,rfl⟩⟩
  ·exact⟨false,.inr ⟨N,rfl,E.resolve_left N⟩⟩
 have go:∀(V:(¬nx≠(⟨#[99,104,97,108,108,101,110,103,101]⟩:ByteArray))\/yR x.c.secret=false),
  ∃S' lc B,fin qk.res (zH AA qk.body (st qk.ntmps (ini [.ptr k 0 0,.agg (x.pc p (zk x.c.done))]) (fun _=>none) S) [])=some (.tup [.agg B,.sc (.int .i64 (K.tkC p nx now c).1)],S')/\B.length=4/\B.all AV.isCell=true/\((K.tkC p nx now c).1=0->B=prC c.1 (yi c.2.1))/\
  yu us sv i S' k {L with lc:=lc} (K.tkC p nx now c).2 R/\Chg S S' (yn k L sv) (yn k L sv):=by
  intro V;have ag:∃b,pev (.bin .neq) [.sc (.string nx),.s ⟨#[99,104,97,108,108,101,110,103,101]⟩]=some (.sc (.bool b))/\(b=true->yR x.c.secret=false):=by
   rcases V with V|V
   ·refine⟨false,?_,fun e=>by cases e⟩;simp at V;simp[V]
   ·exact⟨!decide (nx=⟨#[99,104,97,108,108,101,110,103,101]⟩),by simp,fun _=>V⟩
  obtain⟨b,H,F⟩:=ag;unfold Kd.tkC;by_cases X:c.2.2=0
  case neg=>
   rw[if_neg X];have aa:(c.2.2=0)=False:=eq_false X;by_cases f6:c.2.2=6
   ·obtain⟨P,I,b1,g1⟩:=zBz h.b hK.fails;obtain⟨W,G1⟩:=h.upB b1 g1;rw[<-Z]at I;rw[if_pos f6];refine⟨P,L.lc,prC c.1 (yi c.2.1),?_,rfl,j,fun e=>absurd e X,W,G1⟩;rw[f6]at g ⊢;cases b with
    |false=>simp[qk,vK,xc,f,n,t1,H,g,zj,pl,j,G,h.at_.users,I]
    |true=>
     rw[F rfl]at r;simp[qk,vK,xc,f,n,t1,H,r,g,zj,pl,j,G,h.at_.users,I]
   ·have ab:(c.2.2=6)=False:=eq_false f6;rw[if_neg f6];refine⟨S,L.lc,prC c.1 (yi c.2.1),?_,rfl,j,fun e=>absurd e X,h,Chg.refl⟩;cases b with
    |false=>simp[qk,vK,xc,f,n,t1,H,g,zj,pl,j,G,aa,ab]
    |true=>
     rw[F rfl]at r;simp[qk,vK,xc,f,n,t1,H,r,g,zj,pl,j,G,aa,ab]
  rw[if_pos X];rw[X]at g;have w:=fun S=>@zmM S p hp;have Q:IntKind.i64.wrap (now+100)=now+100:=w64 (by omega);have U:IntKind.i64.wrap (now+100+1)=now+100+1:=w64 (by omega);obtain⟨P,O,y,W,G1⟩:=k51 h (id:=p.txt) (t:=now+100+1) (now:=now);have z:=h.at_.cch;generalize Rf.seenR K.room K.cache p.txt (now+100+1) now=q at *;unfold Kd.tkS;by_cases q0:q.1=0
  case neg=>
   rw[if_neg q0];have ac:(q.1=0)=False:=eq_false q0;refine⟨P,O,prC c.1 (yi c.2.1),?_,rfl,j,fun e=>absurd e q0,W,G1⟩;cases b with
   |false=>simp[qk,vK,xc,f,n,t1,H,g,zj,pl,j,G,z,w,J,Q,U,y,ac]
   |true=>
    rw[F rfl]at r;simp[qk,vK,xc,f,n,t1,H,r,g,zj,pl,j,G,z,w,J,Q,U,y,ac]
  rw[if_pos q0];rw[q0]at y;by_cases no:nx=yg
  case neg=>
   rw[if_neg no];have C:(nx=⟨#[111,116,112]⟩)=False:=eq_false no;refine⟨P,O,prC c.1 (yi c.2.1),?_,rfl,j,fun _=>rfl,W,G1⟩;cases b with
   |false=>simp[qk,vK,xc,f,n,t1,H,g,zj,pl,j,G,z,w,J,Q,U,y,C]
   |true=>
    rw[F rfl]at r;simp[qk,vK,xc,f,n,t1,H,r,g,zj,pl,j,G,z,w,J,Q,U,y,C]
  rw[if_pos no];have C:(nx=⟨#[111,116,112]⟩)=True:=eq_true no;have D:∀d rg,ze (.ld none 1 false) d rg P [.ptr k 0 6]=some (.ptr L.kb 0 0,none,P):=W.at_.users;obtain⟨S2,m,b2,g2⟩:=zBA W.b (l:=c.2.1) af hK.tok;obtain⟨h2,G2⟩:=W.upB b2 g2;have G2:Chg P S2 (yn k L sv) (yn k L sv):=G2;rw[show({K with cache:=q.2}:Kd).u.name=x.c.client from Z.symm]at m;have m:call 383 [.ptr L.kb 0 0,.sc (.string x.c.client),yi c.2.1] P=_:=m;unfold Kd.tkO;have ah:({K with cache:=q.2}:Kd).u=K.u:=rfl;rw[ah]at m h2 ⊢;by_cases h5:5<=K.u.fails
  ·rw[if_pos h5]at m h2 ⊢;refine⟨S2,O,prC c.1 (yi c.2.1),?_,rfl,j,fun e=>absurd e (by show ¬(7:Int)=0;decide),h2,G1.trans G2⟩;cases b with
   |false=>simp[qk,vK,xc,f,n,t1,H,g,zj,pl,j,G,z,w,J,Q,U,y,C,D,m]
   |true=>
    rw[F rfl]at r;simp[qk,vK,xc,f,n,t1,H,r,g,zj,pl,j,G,z,w,J,Q,U,y,C,D,m]
  ·rw[if_neg h5]at m h2 ⊢;generalize K.u.tok.accept c.2.1=a at *;refine⟨S2,O,prC c.1 (yi c.2.1),?_,rfl,j,fun _=>rfl,h2,G1.trans G2⟩;cases b with
   |false=>simp[qk,vK,xc,f,n,t1,H,g,zj,pl,j,G,z,w,J,Q,U,y,C,D,m]
   |true=>
    rw[F rfl]at r;simp[qk,vK,xc,f,n,t1,H,r,g,zj,pl,j,G,z,w,J,Q,U,y,C,D,m]
 refine go ?_;rcases E with N|N
 ·exact .inl fun e=>e N
 ·exact .inr N
end
section
variable{us:List Us}{sv:List AV}{i:Nat}{S:AS}{k:Nat}{L:Lop}{K:Kd}{R:List (List AV)}
theorem zKk{K:Kd}{x:Tlk}{p:T}{nx:ByteArray}{now:Int}:(K.tk x p nx now).2.key=K.key/\(K.tk x p nx now).2.cookies=K.cookies/\(K.tk x p nx now).2.n=K.n/\(K.tk x p nx now).2.u.name=K.u.name/\(K.tk x p nx now).2.u.set=K.u.set/\(K.tk x p nx now).2.u.key=K.u.key:=by
 unfold Kd.tk Kd.tkC Kd.tkS Kd.tkO;split
 ·split
  ·split
   ·split
    ·split<;>exact⟨rfl,rfl,rfl,rfl,rfl,rfl⟩
    ·exact⟨rfl,rfl,rfl,rfl,rfl,rfl⟩
   ·exact⟨rfl,rfl,rfl,rfl,rfl,rfl⟩
  ·split<;>exact⟨rfl,rfl,rfl,rfl,rfl,rfl⟩
 ·exact⟨rfl,rfl,rfl,rfl,rfl,rfl⟩
theorem zKl{K:Kd}{x:Tlk}{p:T}{nx:ByteArray}{now:Int}:smE (K.tk x p nx now).1:=by
 unfold Kd.tk Kd.tkC Kd.tkS Kd.tkO;split
 ·split
  ·split
   ·split
    ·split
     ·simp[smE]
     ·exact znQ
    ·simp[smE]
   ·exact zna
  ·exact zks
 ·simp[smE]
theorem zBq(h:yu us sv i S k L K R)(z:K.okk)(P:∀s∈K.u.set,isM s)(hR:R.length<=1000){t:T}{now:Int}(ht:t.lo)(aa:now.natAbs<=100000000000000)(ay:∀cl,ku t=some cl->vD us i K.u cl):
 ∃S' L' R',call 168 [.ptr k 0 0,.agg t.cells,.sc (.int .i64 now)] S=some (.agg (K.req t now).1.cells,S')/\yu us sv i S' k L' (K.req t now).2.1 R'/\Chg S S' (yn k L sv) (yn k L' sv)/\wq S S' (yn k L' sv) R R' (K.req t now).2.2:=by
 rw[z8 a168 (by simp) rfl];obtain⟨X,g,xl,xc,hX⟩:=zI1 h.at_ (t:=t) (now:=now) ht z.cookies z.set2 ay;have ok:=zmh (K:=K) (now:=now) ht;have xt:List.take 32 X=X:=by rw[<-xl,xax]
 unfold Kd.req;generalize K.opens t now=r at *;obtain⟨x,p,e⟩:=r;simp only at g hX;have ab:∀S n,smE n->call 72 [.sc (.int .i64 n)] S=some (.agg (jx n).cells,S):=fun S n hn=>s72 (by unfold inI;unfold smE at hn;omega);by_cases h0:e=0
 case neg=>
  have hr:K.reqX now (x,p,e)=(jx e,K,none):=if_neg h0;rw[hr];refine⟨S,L,R,?_,h,Chg.refl,rfl⟩;have D:=fun S=>ab S e ok.e;simp[zbn,zdc,g,xl,xc,xt,h0,D,zj]
 subst h0;have hX:=hX rfl;subst hX;have xu:=ok.u rfl;have xn:=ok.now rfl;have N:=ok.client rfl;have ac:=ok.nonce rfl;have xd:=ok.done rfl;have xs:=ok.secret rfl;have xp:=ok.p rfl;simp only at xu xn N ac xd xs xp;clear xl xt;have V:x.c.done.length<x.u.set.length:=by
  rw[xu];rcases xd with e|e
  ·rw[e];exact z.set1
  ·unfold jK at e;simp at e;exact e.1
 have ad:∀s∈x.c.done,s∈K.u.set:=by
  rcases xd with e|e
  ·rw[e];intro s M;cases M
  ·unfold jK at e;simp at e;intro s M;rw[<-e.2]at M;exact List.mem_of_mem_take M
 have bm:=z.set2;have W:x.okk:=⟨by rw[N];exact z.name,ac,by rw[xu]at V;omega,fun s M=>z.names s (ad s M),by rw[xn];omega⟩;obtain⟨nx,E⟩:∃nx,x.u.set[x.c.done.length]?=some nx:=⟨x.u.set[x.c.done.length],by simp[V]⟩;have Q:nx∈K.u.set:=by rw[<-xu];exact xaj E
 have ae:=P nx Q;have hr:K.reqX now (x,p,0)=K.reqN x p now nx:=by unfold Kd.reqX;simp only[if_true,E]
 rw[hr];have w:=fun S=>@s83 S p (by have:=T.bb_len xp.bb;omega);have hS:=h.hS;cases hi:yR p with
 |true=>
  rw[hi]at w;rw[zjx hi];obtain⟨S',F,h',g'⟩:=zr4 (p:=p) h (by have:=z.n;omega) z.cookies W (.inl rfl) E ae;refine⟨S',L,R,?_,h',g',rfl⟩;simp[zbn,zdc,g,xc,w,F,zj]
 |false=>
 rw[hi]at w;rw[zmy hi];obtain⟨C,G,B,q,bl,bc,hB,h1,G1⟩:=zBu h z E ae xp xs aa xn N;have bt:List.take 4 B=B:=by rw[<-bl,xax]
 have az:smE (K.tk x p nx now).1:=zKl;obtain⟨t1,t2,t3,t4,t5,t6⟩:=@zKk K x p nx now;generalize K.tk x p nx now=tk at *;by_cases k0:tk.1=0
 case neg=>
  rw[if_neg k0];have D:=fun S=>ab S tk.1 az;refine⟨C,{L with lc:=G},R,?_,h1,G1,rfl⟩;have ba:(tk.1=0)=False:=eq_false k0;simp[zbn,zdc,g,xc,w,q,bl,bc,bt,ba,D,zj]
 rw[if_pos k0];rw[k0]at q;have hB:=hB k0;subst hB;clear bl bt;have pb:List.take 4 (prC (yH x p nx).1 (yi (yH x p nx).2.1))=prC (yH x p nx).1 (yi (yH x p nx).2.1):=rfl;have pl:=@ztd (yH x p nx).1 (yi (yH x p nx).2.1);have af:=@zGA (yH x p nx).1 (yi (yH x p nx).2.1);have U:∀S,call 291 [.agg (x.pc p (zk x.c.done))] S=some (.sc (.string nx),S):=fun S=>zjE (o:=fun _=>False) (.inl rfl) E;have be:j8 C (zk x.c.done) x.c.done:=.inl rfl;have H:=zgr be (by have:=W.done;omega);obtain⟨S2,I⟩:∃S2,S2=C.new (.rows 1 (zv x.c.done)):=⟨_,rfl⟩;rw[<-I]at H;have bn:=h1.hS;have n2:S2.n=C.n+1:=by rw[I];rfl
 have r2:S2.ro=C.ro:=by rw[I];rfl
 have bf:S2.heap C.n=some (.rows 1 (zv x.c.done)):=by rw[I];exact jX
 have bg:GV S2 1 (.arr C.n 1 0 x.c.done.length none) (zv x.c.done):=.inr ⟨C.n,by rw[zag],bf,by omega,by omega⟩;obtain⟨v3,S3,ha,ag,q1,q2,q3⟩:=bg.app (by omega) (r:=[.sc (.string nx)]) (bytes:=16) (f:=true) (by rw[zag];have:=W.done;omega);have ah:zv x.c.done++[[.sc (.string nx)]]=zv (x.c.done++[nx]):=by simp[zv]
 rw[ah]at ag;have ai:∀y,y<C.n->¬yO (.arr C.n 1 0 x.c.done.length none) y:=by
  rintro y hy ⟨a,b,c,d,e⟩;cases e;omega
 obtain⟨h3,G3⟩:=h1.same (S':=S3) (q1.trans r2) (by omega) (fun j hj=>by
  rw[(q3 j (by omega) (ai j hj)).1,I];exact if_neg (by omega))
 rcases ag with⟨aj,_⟩|⟨id,rfl,ak,bj,al⟩
 ·simp[zv]at aj
 have bk:C.n<=id:=by
  rcases Nat.lt_or_ge id C.n with hl|hl
  ·exact absurd ⟨_,_,_,_,rfl⟩ (q3 id (by omega) (ai id hl)).2
  ·exact hl
 have am:¬yn k {L with lc:=G} sv id:=fun e=>by have:=h1.own_lt e;omega
 rw[zag]at ha;have hD:DV S3 (yn k {L with lc:=G} sv) (.arr id 1 0 (x.c.done++[nx]).length none) (x.more nx).c.done:=.inr ⟨id,rfl,ak,al,am⟩;have GT:=G1.trans G3;have an:List.take 2 (x.pc p (zk x.c.done))++.arr id 1 0 (x.c.done++[nx]).length none::List.drop 3 (x.pc p (zk x.c.done))=(x.more nx).pc p (.arr id 1 0 (x.c.done++[nx]).length none):=rfl;have ao:((x.more nx).pc p (.arr id 1 0 (x.c.done++[nx]).length none)).all AV.isCell=true:=Tlk.pc_cell rfl;have u2:List.take 1 (List.drop 2 ((x.more nx).pc p (.arr id 1 0 (x.c.done++[nx]).length none)))=[.arr id 1 0 (x.c.done++[nx]).length none]:=rfl;have ap:List.take 1 (List.drop 20 ((x.more nx).pc p (.arr id 1 0 (x.c.done++[nx]).length none)))=[zk x.u.set]:=rfl;have aq:List.take 32 ((x.more nx).pc p (.arr id 1 0 (x.c.done++[nx]).length none))=(x.more nx).pc p (.arr id 1 0 (x.c.done++[nx]).length none):=rfl;have ar:((x.more nx).pc p (.arr id 1 0 (x.c.done++[nx]).length none)).length=32:=rfl;have as:(x.more nx).okk:=⟨W.client,W.nonce,by show(x.c.done++[nx]).length<=1000;rw[xu]at V;simp;omega,fun s M=>(xaE.1 M).elim (W.names s) fun M=>by rw[xaA.1 M];exact z.names nx Q,W.now⟩;have bo:0<=tk.2.n/\tk.2.n<4611686018427387000:=by rw[t3];exact z.n
 have au:tk.2.cookies.lo:=by rw[t2];exact z.cookies
 unfold Kd.reqD;by_cases hm:(x.more nx).c.done.length=(x.more nx).u.set.length
 ·rw[if_pos hm];obtain⟨S4,v4,bh,av,h4,G4,c1,c2,c3,c4⟩:=zBv (p:=p) (base:=(yH x p nx).1) h3 (by omega) hR as hD (by rw[t4];exact N);refine⟨S4,{L with lc:=G,iv:=v4},_,?_,h4,GT.trans G4,⟨bh,rfl,c1,?_,c3,c4⟩⟩
  ·have O:(x.c.done++[nx]).length=x.u.set.length:=hm;generalize(x.c.done++[nx]).length=m at *;have Y:((m:Int)=(x.u.set.length:Int))=True:=eq_true (by rw[O]);clear O;generalize(x.more nx).pc p (.arr id 1 0 m none)=X3 at *;generalize prC (yH x p nx).1 (yi (yH x p nx).2.1)=PC at *;simp[zbn,zdc,g,xc,w,q,bc,pb,pl,af,H,U,ha,an,ao,u2,ap,aq,ar,Y,av,zj]
  ·have:=G1.2.1;omega
 ·rw[if_neg hm];have aw:(x.more nx).c.done.length<(x.more nx).u.set.length:=by
   have h1:(x.more nx).c.done.length=x.c.done.length+1:=by show(x.c.done++[nx]).length=_;simp
   have h2:(x.more nx).u.set.length=x.u.set.length:=rfl;omega
  obtain⟨Z,J⟩:∃Z,(x.more nx).u.set[(x.more nx).c.done.length]?=some Z:=⟨(x.more nx).u.set[(x.more nx).c.done.length],by simp[aw]⟩;simp only[J];have ax:=P Z (by rw[<-xu];exact xaj J);obtain⟨S4,F,h4,G4⟩:=zr4 (p:=p) h3 (by omega) au as hD J ax;refine⟨S4,{L with lc:=G},R,?_,h4,GT.trans G4,rfl⟩;have O:¬(x.c.done++[nx]).length=x.u.set.length:=hm;generalize(x.c.done++[nx]).length=m at *;have Y:((m:Int)=(x.u.set.length:Int))=False:=eq_false (by omega);have bi:(m=x.u.set.length)=False:=eq_false O;generalize(x.more nx).pc p (.arr id 1 0 m none)=X3 at *;generalize prC (yH x p nx).1 (yi (yH x p nx).2.1)=PC at *;simp[zbn,zdc,g,xc,w,q,bc,pb,pl,af,H,U,ha,an,ao,u2,ap,aq,ar,Y,bi,F,zj]
end
def Cl.new(name:ByteArray)(pass seed:T)(counter:Int)(ticket host:T):Cl:=
 {on:=false,done:=false,ended:=false,nonce:=⟨#[]⟩,body:=tZ,wrap:=tZ,ak:=tZ,base:=tZ,session:=tZ,name:=name,pass:=pass,seed:=seed,counter:=counter,ticket:=ticket,host:=host,key:=zak pass name,marks:=[],z1:=true,z2:=true,z3:=true}
section
variable{S:AS}
end
def kc:ByteArray:=⟨#[107,100,99]⟩
def vH:ByteArray:=⟨#[99,111,111,107,105,101]⟩
def zHi:ByteArray:=⟨#[112,97,115,115,119,111,114,100,32,97]⟩
def zJH:ByteArray:=⟨#[115,101,101,100,32,97]⟩
def naB:ByteArray:=⟨#[97]⟩
def jY:T:=zB qL
def zu1:T:=zek (zB kc) jY
section
variable{S:AS}
def c0(a seed:T):Cl:=Cl.new naB a seed 2 zu1 jY
def zah:Nat->List ByteArray
 |0=>[zr]
 |1=>[yg]
 |2=>[yo]
 |3=>[zr,yg]
 |4=>[yg,yo]
 |5=>[yo,zr]
 |6=>[zr,yg,yo]
 |_=>[yo,yg,zr]
def us0(set:List ByteArray):Us:=⟨naB,zak (zB zHi) naB,set,zB zJH,⟨1,3,10,0,0,5⟩,0⟩
theorem zJL{j:Nat}:1<=(zah j).length/\(zah j).length<=3/\(∀s∈zah j,isM s)/\∀(i k:Nat) (s:ByteArray),(zah j)[i]?=some s->(zah j)[k]?=some s->i=k:=by
 have n:zr≠yg:=by decide
 have o:zr≠yo:=by decide
 have q:yg≠yo:=by decide
 have e:isM zr:=.inl rfl;have f:isM yg:=.inr (.inl rfl);have g:isM yo:=.inr (.inr rfl);have one:∀a,isM a->1<=[a].length/\ [a].length<=3/\(∀s∈[a],isM s)/\∀(i k:Nat) (s:ByteArray),[a][i]?=some s-> [a][k]?=some s->i=k:=by
  intro a m;refine⟨by simp,by simp,by simpa using m,?_⟩;rintro(_|i) (_|k) s h u<;>simp_all
 have two:∀a b,isM a->isM b->a≠b->1<=[a,b].length/\ [a,b].length<=3/\(∀s∈[a,b],isM s)/\∀(i k:Nat) (s:ByteArray),[a,b][i]?=some s-> [a,b][k]?=some s->i=k:=by
  intro a b m r t;refine⟨by simp,by simp,by simp[m,r],?_⟩;rintro(_|_|i) (_|_|k) s h u<;>simp_all
 have three:∀a b c,isM a->isM b->isM c->a≠b->a≠c->b≠c->1<=[a,b,c].length/\ [a,b,c].length<=3/\(∀s∈[a,b,c],isM s)/\∀(i k:Nat) (s:ByteArray),[a,b,c][i]?=some s-> [a,b,c][k]?=some s->i=k:=by
  intro a b c m r w t y z;refine⟨by simp,by simp,by simp[m,r,w],?_⟩;rintro(_|_|_|i) (_|_|_|k) s h u<;>simp_all
 match j with
 |0=>exact one _ e
 |1=>exact one _ f
 |2=>exact one _ g
 |3=>exact two _ _ e f n
 |4=>exact two _ _ f g q
 |5=>exact two _ _ g e o.symm
 |6=>exact three _ _ _ e f g n o q
 |_+7=>exact three _ _ _ g f e q.symm o.symm n.symm
end
def qC:List ByteArray:=[zr,yg,yo]
def zcw(l:List ByteArray)(s:ByteArray):Bool:=l.any fun x=>decide (x=s)
theorem zsw{l:List ByteArray}{s:ByteArray}:zcw l s=true↔s∈l:=by unfold zcw;rw[List.any_eq_true];simp
def znK(S:AS)(l:List ByteArray)(s:ByteArray)(r:Option (AV×AS)):Prop:=∃n:Int,r=some (.sc (.int .i64 n),S)/\decide (0<=n)=zcw l s
def qK(l:List ByteArray):List ByteArray->Nat
 |[]=>0
 |m::r=>(if zcw l m=true then 1 else 0)+qK l r
section
variable{S:AS}
theorem zJv:call 460 [] S=some (zk qC,S):=by
 rw[zi zyd rfl rfl rfl];simp[ziB,zqN];rfl
theorem zBH{l:List ByteArray}{s:ByteArray}(B:l.length<=1000):znK S l s (call 482 [zk l,.sc (.string s)] S):=by
 rw[z8 zyi (by simp) rfl];simp only[ziF];simp[zqR];refine y8 (α:=Nat) (R:=fun _ r=>znK S l s r) (fun i e rg S'=>i<=l.length/\S'=S/\e 0=zk l/\e 1=.sc (.string s)/\e 7=.sc (.int .i64 (l.length:Nat))/\e 8=.sc (.int .i64 (i:Nat))/\s∉l.take i) (fun i=>l.length-i) ?_ 0 _ _ _ ?_;rotate_left
 ·exact⟨by omega,rfl,by simp,by simp,by simp,by simp,by simp⟩
 intro C c i e rg S' ⟨D,hS,j,o,m,q,a⟩ ih;subst hS;by_cases t:i<l.length
 ·obtain⟨x,u⟩:=yV t;have f:(i:Int)<(l.length:Int):=by omega
  have g:=wb u;have y:IntKind.i64.wrap ((i:Int)+1)=((i+1:Nat):Int):=w64 (by omega);by_cases n:s=x
  ·have b:(s=x)=True:=eq_true n;have z:s∈l:=by rw[n];exact xaj u
   simp[ziG,j,o,m,q,f,t,g,b];rw[c];simp;exact⟨_,rfl,by rw[zsw.2 z];simp⟩
  ·have b:(s=x)=False:=eq_false n;simp[ziG,j,o,m,q,f,t,g,b,y];refine ih (i+1) _ _ _ (by omega) (fun _ h=>h) ⟨by omega,rfl,by simp[j],by simp[o],by simp[m],by simp,?_⟩;rw[xav,u];simp[a,n]
 ·have w:i=l.length:=by omega
  subst w;rw[xax]at a;simp[ziG,j,m,q];rw[c];simp;exact⟨-1,rfl,by rw[Bool.eq_false_iff.2 fun e=>a (zsw.1 e)];rfl⟩
theorem zBE{l:List ByteArray}{s:ByteArray}(a:l.length<=1000):call 461 [zk l,.sc (.string s)] S=some (.sc (.bool (zcw l s)),S):=by
 obtain⟨n,e,h⟩:=zBH (S:=S) (s:=s) a;rw[z8 zye (by simp) rfl,<-h];simp[ziC,zqO,e]
theorem zJo{u:Us}(h:u.okk)(Y:qK u.set qC=u.set.length):call 407 [.agg u.row] S=some (.sc (.bool true),S):=by
 obtain⟨Z,⟨j,aa⟩,⟨F,G⟩,ht,hm,hd⟩:=h;rw[zi zxY rfl (by simp) rfl];have f:=fun S=>@zmT S u.tok;rw[ht]at f;have o:=fun S=>@zJv S;have H:=@Us.row_cell u;have C:=@Us.row_len u;have r0:u.row.take 1=[.sc (.string u.name)]:=rfl;have I:(u.row.drop 4).take 1=[zk u.set]:=rfl;have r8:(u.row.drop 8).take 6=u.tok.cells:=rfl;have J:(u.row.drop 14).take 1=[.sc (.int .i64 u.fails)]:=rfl;have q:u.row.drop 14=[.sc (.int .i64 u.fails)]:=rfl;have rt:=@Us.take u;generalize u.row=r at *;simp only[zin];simp[-zg,zqE,o,H,C,zj];refine y8 (α:=Nat) (R:=fun _ x=>zW S x=some (.sc (.bool true),S)) (fun i e rg S'=>i<=3/\S'={S with ro:=S.n}/\e 1=.reg 1 0/\rg 1=some r/\e 6=zk qC/\e 7=.i 3/\e 8=.sc (.int .i64 (i:Nat))/\e 3=.sc (.int .i64 (qK u.set (qC.take i):Nat))) (fun i=>3-i) ?_ 0 _ _ _ ?_;rotate_left
 ·exact⟨by omega,rfl,by simp,by simp,by simp,by simp[qC],by simp,by simp[qK]⟩
 intro kk M i e rg S' ⟨hi,N,s,t,D,w,O,E⟩ ih;subst N;by_cases y:i<3
 ·obtain⟨m,a⟩:=yV (l:=qC) (i:=i) (by show i<3;omega);have z:=wb a;have B:(i:Int)<3:=by omega
  have X:IntKind.i64.wrap ((i:Int)+1)=((i+1:Nat):Int):=w64 (by omega);have g:=fun S=>@zBE S u.set m (by omega);have hb:qK u.set (qC.take i)<=3:=by
   match i,y with
   |0,_=>simp[qK]
   |1,_=>simp only[qC,List.take_succ_cons,List.take_zero,qK];split<;>omega
   |2,_=>simp only[qC,List.take_succ_cons,List.take_zero,qK];split<;>split<;>omega
  have b:qK u.set (qC.take (i+1))=qK u.set (qC.take i)+(if zcw u.set m=true then 1 else 0):=by
   match i,y,a with
   |0,_,a=>cases a;simp[qC,qK]
   |1,_,a=>cases a;simp[qC,qK]
   |2,_,a=>cases a;simp only[qC,List.take_succ_cons,List.take_zero,qK];omega
  have w3:IntKind.i64.wrap ((qK u.set (qC.take i):Int)+1)=((qK u.set (qC.take i)+1:Nat):Int):=w64 (by omega);by_cases c:zcw u.set m=true
  ·rw[if_pos c]at b;simp[-zg,zio,s,t,D,w,O,E,B,z,C,I,g,c,X,w3];exact ih (i+1) _ _ _ (by omega) (fun _ h=>h) ⟨by omega,rfl,by simp[s],by simp[t],by simp[D],by simp[w],by simp,by simp[b]⟩
  ·rw[if_neg c]at b;simp[-zg,zio,s,t,D,w,O,E,B,z,C,I,g,c,X];exact ih (i+1) _ _ _ (by omega) (fun _ h=>h) ⟨by omega,rfl,by simp[s],by simp[t],by simp[D],by simp[w],by simp,by simp[E,b]⟩
 ·have P:i=3:=by omega
  subst P;have Q:e 3=.sc (.int .i64 (u.set.length:Nat)):=by rw[E,<-Y];rfl
  have n1:((0:Int)<(u.set.length:Int))=True:=eq_true (by omega);have U:(0<u.set.length)=True:=eq_true (by omega);have n2:(0<=u.fails)=True:=eq_true F;have n3:(u.fails<=1099511627776)=True:=eq_true G;have V:(u.name=⟨#[]⟩)=False:=eq_false Z;have W:u.set≠[]:=fun e=>by rw[e]at j;simp at j
  simp[-zg,zio,w,O];rw[M];simp[s,t,Q,C,r0,I,r8,J,q,V,n1,U,n2,n3,W,f]
end
section
variable{S:AS}{kb:Nat}{v:AV}{l:List Us}
def yk(l:List Us):List AV:=l.map fun u=>zk u.set
theorem zKG{l:List Us}:List.zipWith Us.rowV l (yk l)=l.map Us.row:=by
 unfold yk
 induction l with
 |nil=>rfl
 |cons u l ih=>simp only[xao,List.zipWith_cons_cons,ih];rfl
theorem zlM{id:Nat}(m:S.heap kb=some (.rows 1 [[.arr id 15 0 l.length none]]))(n:S.heap id=some (.rows 15 (l.map Us.row)))(o:l.length<=1000)(b:∀u∈l,u.set.length<=1000){i:Nat}{u:Us}(f:l[i]?=some u)(q:∀(j:Nat) (v:Us),l[j]?=some v->j<i->v.name≠u.name):AtBp S kb id l (yk l) i u:=by
 have a:i<l.length:=(xal.1 f).1;have g:l.set i u=l:=by
  apply List.ext_getElem?;intro j;by_cases h:i=j
  ·subst h;rw[List.getElem?_set_self a,f]
  ·rw[List.getElem?_set_ne h]
 refine⟨m,by rw[g,zKG];exact n,by simp[yk],fun j w v c e=>?_,a,q,o⟩;rw[g]at c;unfold yk at e;rw[xat,c]at e;cases e;exact⟨.inl rfl,b w (xaj c)⟩
theorem zAO{n:ByteArray}(e:S.heap kb=some (.rows 1 [[v]]))(o:GV S 15 v (l.map Us.row))(q:l.length<=1000)(c:∀u∈l,u.set.length<=1000)(f:∀u∈l,u.name≠n):call 439 [.ptr kb 0 0,.sc (.string n)] S=some (.sc (.pointer none),S):=by
 have b:∀d rg,ze (.ld none 1 false) d rg S [.ptr kb 0 0]=some (v,none,S):=fun d rg=>by rw[zY e];rfl
 rcases o with⟨g,rfl⟩|⟨id,rfl,r,_,_⟩
 ·rw[z8 zgc (by simp) rfl];have a:call 470 [.lst 0 true [],.fn 471 [] [.iptr [.sc (.string n)]]] S=some (.i (-1),S):=by
   rw[z8 zgd (by simp) rfl];simp only[zck];simp[zfd];rw[jG];simp[zcl]
  simp[zbr,zdt,b,a]
 ·cases l with
  |nil=>
   rw[z8 zgc (by simp) rfl];have a:call 470 [.arr id 15 0 0 none,.fn 471 [] [.iptr [.sc (.string n)]]] S=some (.i (-1),S):=by
    rw[z8 zgd (by simp) rfl];simp only[zck];simp[zfd];rw[jG];simp[zcl]
   simp at b;simp[zbr,zdt,b,a]
  |cons u l=>
   have s:=zlM (i:=0) (u:=u) (l:=u::l) (S:=S) (kb:=kb) (id:=id) (by simpa using e) r q c rfl (fun j v _ h=>by omega);have:=zdE (n:=n) s (.inr fun w m=>f w (by rw[List.set_cons_zero]at m;exact m));rw[zbL,if_neg (f u (by simp))]at this;exact this
theorem zAN{n:ByteArray}(g:S.heap kb=some (.rows 1 [[v]]))(t:GV S 15 v (l.map Us.row))(r:l.length<=1000)(c:∀u∈l,u.set.length<=1000)(m:∀u∈l,u.name≠n):call 376 [.ptr kb 0 0,.sc (.string n)] S=some (.tup [.agg zU.row,.b false],S):=by
 rw[zi znN rfl (by simp) rfl];have hS:∀(S0:AS),S0.heap kb=some (.rows 1 [[v]])->GV S0 15 v (l.map Us.row)->call 439 [.ptr kb 0 0,.sc (.string n)] S0=some (.sc (.pointer none),S0):=fun S0 a b=>zAO a b r c m;have o:call 439 [.ptr kb 0 0,.sc (.string n)] {S with ro:=S.n}=some (.sc (.pointer none),{S with ro:=S.n}):=by
  rcases t with⟨e,rfl⟩|⟨id,rfl,y,B,C⟩
  ·exact hS {S with ro:=S.n} g (.inl ⟨e,rfl⟩)
  ·cases l with
   |nil=>
    rw[z8 zgc (by simp) rfl];have f:call 470 [.arr id 15 0 0 none,.fn 471 [] [.iptr [.sc (.string n)]]] {S with ro:=S.n}=some (.i (-1),{S with ro:=S.n}):=by
     rw[z8 zgd (by simp) rfl];simp only[zck];simp[zfd];rw[jG];simp[zcl]
    have q:∀d rg,ze (.ld none 1 false) d rg {S with ro:=S.n} [.ptr kb 0 0]=some (.arr id 15 0 0 none,none,{S with ro:=S.n}):=fun d rg=>by rw[zY (S:={S with ro:=S.n}) g];rfl
    simp[zbr,zdt,q,f]
   |cons u l=>
    have z:=zlM (i:=0) (u:=u) (l:=u::l) (S:=S) (kb:=kb) (id:=id) (by simpa using g) y r c rfl (fun j v _ h=>by omega);have:=zdE (n:=n) (z.ro S.n) (.inr fun w s=>m w (by rw[List.set_cons_zero]at s;exact s));rw[zbL,if_neg (m u (by simp))]at this;exact this
 simp[zdp,zid,o,zjZ,zj]
end
section
variable{us:List Us}{i:Nat}{S:AS}{k:Nat}{L:Loc}{K:Kd}{R:List (List AV)}
theorem zjj(h:yE us i S k L K R)(P:0<=K.n/\K.n<4611686018427387904)(J:K.cookies.lo){x:Tlk}(z:x.okk){dv:AV}(q:DV S (yB k L) dv x.c.done){nx:ByteArray}(D:x.u.set[x.c.done.length]?=some nx):
 ∃S',call 240 [.ptr k 0 0,.agg (x.cells dv)] S=some (.agg (K.offT x nx).cells,S')/\yE us i S' k L (K.offK nx) R/\Chg S S' (yB k L) (yB k L):=by
 rw[z8 zwk (by simp) rfl];have m:=wb D;have E:IntKind.i64.wrap (x.now+100)=x.now+100:=w64 (by have:=z.now;omega);have xc:=fun s:T=>@Tlk.cell ({x with c:={x.c with secret:=s}}:Tlk) dv q.cell;have o:=@Tlk.cell x dv q.cell;have b:=fun S t=>@zuj S x.ak t x.c.nonce (by have:=z.nonce;omega);have F:=q.len;by_cases e:nx=zr
 ·have G:K.offK nx=K:=if_pos e;have H:K.offS nx=zw:=if_pos e;have r:jH x.u nx zw=zG zr []:=if_pos e;unfold Kd.offT;rw[G,H,r];refine⟨S,?_,h,Chg.refl⟩;have a:call 111 [.agg K.cookies.cells,.agg (ckX ⟨x.c.client,x.c.nonce,x.c.done,zw,x.now+100⟩ dv)] S=some (.agg (yJ K.cookies (K.offC x zw)).cells,S):=ztj (c:=K.offC x zw) q.ss J zjP (z.ck K zjP);have B:(nx=⟨#[99,104,97,108,108,101,110,103,101]⟩)=True:=eq_true e;simp[f240,zhj,zj,o,xc,m,F,B,E,h.at_.cookies,b,a];rfl
 ·have G:K.offK nx={K with n:=K.n+1}:=if_neg e;have H:K.offS nx=zQ (K.n+1):=if_neg e;have B:(nx=⟨#[99,104,97,108,108,101,110,103,101]⟩)=False:=eq_false e;obtain⟨w,f,M,N⟩:=zma h P;unfold Kd.offT;rw[G,H];have O:(zQ (K.n+1)).lo:=zkG (by omega) (by omega);generalize zQ (K.n+1)=s at *;have g:∀d rg,ze (.ld none 3 true) d rg w [.ptr k 0 3]=some (.agg K.cookies.cells,none,w):=M.at_.cookies;have a:call 111 [.agg K.cookies.cells,.agg (ckX ⟨x.c.client,x.c.nonce,x.c.done,s,x.now+100⟩ dv)] w=some (.agg (yJ K.cookies (K.offC x s)).cells,w):=ztj (c:=K.offC x s) (q.keep N).ss J O (z.ck K O);have j:=fun S=>@zug S s;refine⟨w,?_,M,N⟩;by_cases C:nx=yo
  ·have I:(nx=⟨#[115,112,97,107,101]⟩)=True:=eq_true C;have r:jH x.u nx s=zej x.u.key s:=by unfold jH;rw[if_neg e,if_pos C]
   rw[r];have y:=fun S=>@zI7 S x.u.key s;simp[f240,zhj,zj,o,xc,m,F,B,I,E,f,j,y,g,b,a];rfl
  ·have I:(nx=⟨#[115,112,97,107,101]⟩)=False:=eq_false C;have r:jH x.u nx s=wP s:=by unfold jH;rw[if_neg e,if_neg C]
   rw[r];simp[f240,zhj,zj,o,xc,m,F,B,I,E,f,j,g,b,a];rfl
theorem zl9(h:yE us i S k L K R)(hn:0<=K.n/\K.n<4611686018427387900)(hR:R.length<=1000){x:Tlk}(e:x.okk){dv:AV}(a:DV S (yB k L) dv x.c.done)(C:x.c.client=K.u.name){base:T}:
 ∃S' g,call 245 [.ptr k 0 0,.agg (x.cells dv),.agg base.cells] S=some (.agg (K.tktT x base).cells,S')/\yE us i S' k {L with iv:=g} K.tktK (R++[jP x.c.client x.c.nonce dv (zQ (K.n+1))])/\Chg S S' (yB k L) (yB k {L with iv:=g}):=by
 rw[z8 zwp (by simp) rfl];have xc:=@Tlk.cell x dv a.cell;obtain⟨S1,d1,h1,g1⟩:=zma h (by omega);obtain⟨B,D,E,g2⟩:=zma h1 ⟨by show 0<=K.n+1;omega,by show K.n+1<_;omega⟩;have D:call 342 [.ptr k 0 0] S1=some (.agg (zQ (K.n+1+1)).cells,B):=D;have F:jt B L.kb L.ub us i K.u:=E.b;obtain⟨X,Y,b3,G⟩:=zCy F;obtain⟨Z,g3⟩:=E.upB b3 G;obtain⟨g,aa,j,ha,H,J,h4,g4⟩:=Z.issue (r:=jP x.c.client x.c.nonce dv (zQ (K.n+1))) (f:=true) hR;have M:∀d rg,ze (.ld none 1 false) d rg B [.ptr k 0 6]=some (.ptr L.kb 0 0,none,B):=E.at_.users;have N:∀d rg,ze (.ld none 1 false) d rg X [.ptr k 0 10]=some (L.iv,none,X):=Z.at_.issued;have O:∀d rg,ze (.ld none 3 true) d rg j [.ptr k 0 0]=some (.agg K.key.cells,none,j):=h4.at_.key;have gT:Chg S j (yB k L) (yB k {L with iv:=g}):=g1.trans (g2.trans (g3.trans g4));have P:=q69 (a.keep gT).ss (fun s hs=>by have:=e.names s hs;omega) (by have:=e.done;omega);rw[<-C]at Y;have Q:=@zoe x.c.client x.c.nonce dv (zQ (K.n+1)) a.cells a.cell;have U:(jP x.c.client x.c.nonce dv (zQ (K.n+1))).all AV.isCell=true:=by
  unfold jP;rw[zq];simp[a.cell]
 have m:(jP x.c.client x.c.nonce dv (zQ (K.n+1))).length=6:=by
  unfold jP;rw[zq];rfl
 have V:List.take 6 (jP x.c.client x.c.nonce dv (zQ (K.n+1)))=jP x.c.client x.c.nonce dv (zQ (K.n+1)):=by rw[<-m,xax]
 refine⟨j,g,?_,h4,gT⟩;generalize jP x.c.client x.c.nonce dv (zQ (K.n+1))=I at *;have dc:=a.cells;have ab:=a.cell;have dr:=a.reg;have o:=fun S=>@s65 S x.c.client (by have:=e.client;omega);have q:=fun S=>@s65 S x.c.nonce (by have:=e.nonce;omega);have W:=fun S=>@s67 S x.now (by have:=e.now;omega) (by have:=e.now;omega);have w:=fun S t=>@zuj S x.ak t x.c.nonce (by have:=e.nonce;omega);have y:=fun S k t=>@zbI S k t 3 (by unfold inI;omega) (by omega);have z:=fun S=>@zI8 S (zQ (K.n+1+1)) base;show _=some (AV.agg (zam x.ak x.c.nonce base (zQ (K.n+1)) (zQ (K.n+1+1)) (tkt K.key x.c.client (zQ (K.n+1)) x.c.done x.now)).cells,j);generalize zQ (K.n+1)=s at *;generalize zQ (K.n+1+1)=s2 at *;have p4:∀(S:AS),call 63 [.sc (.string ⟨#[116,105,99,107,101,116]⟩),.lst 3 true [(yU x.c.client).cells,s.cells,(zS (jp x.c.done)).cells,(qG x.now).cells]] S=some (.agg (zG zf0 [yU x.c.client,s,zS (jp x.c.done),qG x.now]).cells,S):=fun S=>p63 (k9 (l:=[yU x.c.client,s,zS (jp x.c.done),qG x.now])) (by show 5*48<=_;omega);unfold zam zjV tkt;simp[-jl,f245,zpM,zj,xc,d1,D,M,Y,N,Q,U,m,V,ha,H,J,O,o,q,W,P,w,y,z,p4,dr];rfl
end
end Abs
