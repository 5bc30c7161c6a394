/- The Kdc laws: a request to both. -/
import Derived.Test.YtdiebjbepfjjfaaGreatDoorG9
import Derived.Test.YtdiebjbepfjjfaaGreatDoorG1
import Derived.Test.YtdiebjbepfjjfaaGreatDoorG3
import Derived.Test.YtdiebjbepfjjfaaGreatDoorG2
set_option maxHeartbeats 16000000
set_option maxRecDepth 100000
set_option linter.unusedVariables false
set_option linter.unusedSimpArgs false
set_option linter.unusedSectionVars false
namespace Abs
open Go
def zfw(o k:T)(r:Ck×Int):List Sn:=if r.2=0 then[⟨o,k,r.1.secret⟩]else[]
def zlY(now:Int)(e:Int):Option (List T)->List Sn
 |some [o,k]=>if e=0 then zfw o k (jg (zB vH) k now)else[]
 |_=>[]
def zdG(c:Cl)(t:T)(now:Int):List Sn:=zlY now (kP c.ak c.nonce t).2 (zX jQ 2 (kP c.ak c.nonce t).1)
structure vS(S:AS)(s:Nat)(pa pb lv:AV)(now:Int)(ls:List AV)(l:List Sn):Prop where
 hh:S.heap s=some (.rows 7 [stR pa pb lv now ls])
 gv:GV S 9 lv (l.map Sn.row)
 ro:S.ro<=s
 lt:s<S.n
 ds:¬yO lv s
 ln:ls.length=3
def kg(s:Nat)(lv:AV)(x:Nat):Prop:=x=s\/yO lv x
section
variable{S S':AS}{s:Nat}{pa pb lv:AV}{now:Int}{ls:List AV}{l:List Sn}
theorem vS.keep(h:vS S s pa pb lv now ls l)(a:S'.ro=S.ro)(b:S.n<=S'.n)(d:∀x,x<S.n->kg s lv x->S'.heap x=S.heap x):vS S' s pa pb lv now ls l:=
 ⟨(d s h.lt (.inl rfl)).trans h.hh,h.gv.keep a b fun x e f=>d x e (.inr f),by rw[a];exact h.ro,xan h.lt b,h.ds,h.ln⟩
theorem vS.own_lt(h:vS S s pa pb lv now ls l){x:Nat}(a:kg s lv x):x<S.n:=by
 rcases a with rfl|a
 ·exact h.lt
 ·exact(h.gv.lt a).1
theorem vS.set(h:vS S s pa pb lv now ls l){now':Int}{ls':List AV}(b:ls'.length=3):vS (S.set s (some (.rows 7 [stR pa pb lv now' ls']))) s pa pb lv now' ls' l/\Chg S (S.set s (some (.rows 7 [stR pa pb lv now' ls']))) (kg s lv) (kg s lv):=
 ⟨⟨if_pos rfl,h.gv.keep rfl (xad _) fun x _ d=>if_neg fun e:x=s=>h.ds (e▸d),h.ro,h.lt,h.ds,b⟩,rfl,xad _,fun x _ a=>⟨if_neg fun e=>a (.inl e),a⟩⟩
theorem zy6{a b c:T}:pev (.build [.i (0),.s ⟨#[]⟩,.lst 0 true [],.i (0),.s ⟨#[]⟩,.lst 0 true [],.i (0),.s ⟨#[]⟩,.lst 0 true []] [(0,3),(3,3),(6,3)]) [.agg a.cells,.agg b.cells,.agg c.cells]=some (.agg (Sn.mk a b c).row):=by
 rw[zq a,zq b,zq c];simp;rfl
theorem zBt{who n kind at_ back:Int}{tcs:List AV}{t:T}{nm:ByteArray}(h:vS S s pa pb lv now ls l)(hl:l.length<=100)(F:0<=n/\n<=3)(ht:tcs.length=3/\tcs.all AV.isCell=true)(H:t.lo):
 ∃S' lv',call 281 [.ptr s 0 0,.agg (jW who n kind at_ back tcs),.agg t.cells] S=some (.tup [],S')/\vS S' s pa pb lv' now ls (l++zdG (cq nm (zN n)) t now)/\Chg S S' (kg s lv) (kg s lv'):=by
 rw[z8 zwN (by simp) rfl];obtain⟨t0,t1,t2,rfl⟩:∃a b c,tcs=[a,b,c]:=by
  match tcs,ht.1 with
  |[a,b,c],_=>exact⟨a,b,c,rfl⟩
 have ab:=ht.2;have I:t0.isCell=true/\t1.isCell=true/\t2.isCell=true:=by simpa using ab
 obtain⟨c0,J,M⟩:=I;have ao:=vN (n:=n) (by omega) (by omega);have N:=zs8 F;have v:=fun S=>@zbH S n (by omega) (by omega);have w:=fun S s=>@zfQ S s;have O:pev (.bin .add) [.s ⟨#[110]⟩,.sc (.string (zE n))]=some (.sc (.string (zN n))):=yz (by show 1+_<=_;omega);have aq:(zN n).size=1+(zE n).size:=by unfold zN;rw[xai];rfl
 have P:pev (.bin .add) [.s ⟨#[115,117,98,32]⟩,.sc (.string (zN n))]=some (.sc (.string (vh (zN n)))):=yz (by show 4+_<=_;omega);have y:=fun S=>@zmO S (zB (vh (zN n))) jY;have ac:(cq nm (zN n)).ak=kK (zB (vh (zN n))) jY:=rfl;have ad:(cq nm (zN n)).nonce=zN n:=rfl;have m:=fun S=>@zI9 S (kK (zB (vh (zN n))) jY) t (zN n) (by omega) H.bb;unfold zdG;rw[ac,ad];have U:(kP (kK (zB (vh (zN n))) jY) (zN n) t).1.lo:=zyv H;generalize kP (kK (zB (vh (zN n))) jY) (zN n) t=r at *;have j:=fun S=>@s79 S jQ 2 r.1 (by omega);unfold jQ at j;unfold zt at m;unfold jY qL at *;unfold jW;have g:∀(B:(zlY now r.2 (zX jQ 2 r.1))=[]),(r.2≠0\/zX jQ 2 r.1=none)->∃S' lv',fin f281.res (zH AA f281.body (st f281.ntmps (ini [.ptr s 0 0,.agg (.sc (.int .i64 who)::.sc (.int .i64 n)::.sc (.int .i64 kind)::.sc (.int .i64 at_)::.sc (.int .i64 back)::.i 0::.i 0::([t0,t1,t2]++[.b false])),.agg t.cells]) (fun _=>none) S) [])=some (.tup [],S')/\vS S' s pa pb lv' now ls (l++zlY now r.2 (zX jQ 2 r.1))/\Chg S S' (kg s lv) (kg s lv'):=by
  intro B ae;refine⟨S,lv,?_,by rw[B,List.append_nil];exact h,Chg.refl⟩;by_cases C:r.2=0
  ·have z:=ae.resolve_left (fun e=>e C);unfold jQ at z;rw[z]at j;simp[f281,zdh,c0,J,M,N,v,O,P,w,y,m,j,zF,C,zj]
  ·have V:(r.2=0)=False:=eq_false C;cases z:zX jQ 2 r.1 with
   |none=>
    unfold jQ at z;rw[z]at j;simp[f281,zdh,c0,J,M,N,v,O,P,w,y,m,j,zF,V,zj]
   |some l=>
    unfold jQ at z;rw[z]at j;simp[f281,zdh,c0,J,M,N,v,O,P,w,y,m,j,zF,V,zj]
 cases z:zX jQ 2 r.1 with
 |none=>
  have:=g (by rw[z];rfl) (.inr z);rw[z]at this;exact this
 |some u=>
  obtain⟨af,ag⟩:=jO (n:=2) z;obtain⟨o,k,rfl⟩:=zaQ af;by_cases C:r.2=0
  case neg=>
   have:=g (by rw[z];show(if r.2=0 then zfw o k (jg (zB vH) k now)else[])=[];rw[if_neg C]) (.inl C);rw[z]at this;exact this
  have ah:k.lo:=U.kid (ag k (by simp));have W:=z;unfold jQ at W;rw[W]at j;have D:=fun S=>@zt2 S (zB vH) k now (zkf (by show 6<=_;omega)) ah;have l2:∀d rg,ze (.ld none 1 false) d rg S [.ptr s 0 3]=some (.sc (.int .i64 now),none,S):=fun d rg=>by rw[zY h.hh];rfl
  have l1:∀d rg,ze (.ld none 1 false) d rg S [.ptr s 0 2]=some (lv,none,S):=fun d rg=>by rw[zY h.hh];rfl
  have X:pev (.iaddr 3) [zh [o,k],.i 1]=some (.iptr k.cells):=zJ (i:=1) rfl;have Y:pev (.iaddr 3) [zh [o,k],.i 0]=some (.iptr o.cells):=zJ (i:=0) rfl;show ∃S' lv',_/\vS S' s pa pb lv' now ls (l++(if r.2=0 then zfw o k (jg (zB vH) k now)else[]))/\_;rw[if_pos C];unfold vH at *;generalize jg (zB ⟨#[99,111,111,107,105,101]⟩) k now=q at *;have qc:q.1.cells.all AV.isCell=true:=rfl;have ql:q.1.cells.length=7:=rfl;have qt:List.take 7 q.1.cells=q.1.cells:=rfl;have q3:List.take 3 (List.drop 3 q.1.cells)=q.1.secret.cells:=by rw[zq];rfl
  unfold zfw;by_cases q0:q.2=0
  ·rw[if_pos q0];obtain⟨lv',G,ap,A,a1,a2,Z⟩:=h.gv.app (r:=(Sn.mk o k q.1.secret).row) (bytes:=144) (f:=true) (by have:=h.ro;have:=h.lt;omega) (by rw[xaH];omega);have ai:G.heap s=some (.rows 7 [stR pa pb lv now ls]):=(Z s h.lt h.ds).1.trans h.hh;have aj:∀d rg,ze (.st none 1) d rg G [.ptr s 0 2,lv']=some (.junk,none,G.set s (some (.rows 7 [stR pa pb lv' now ls]))):=fun d rg=>by
    simp only[ze,ai,A.cells];rw[if_pos ⟨by have:=h.ro;omega,by simp[A.cell],rfl⟩];simp only[xas,xae];rw[if_pos (by show 2+1<=(stR pa pb lv now ls).length;unfold stR;simp[h.ln])];rfl
   have al:=@zy6 o k q.1.secret;have rc:(Sn.mk o k q.1.secret).row.all AV.isCell=true:=rfl;have rl:(Sn.mk o k q.1.secret).row.length=9:=rfl;have rt:List.take 9 (Sn.mk o k q.1.secret).row=(Sn.mk o k q.1.secret).row:=rfl;have am:=h.gv.reg;have aa:=A.reg;have E:l.map Sn.row++[(Sn.mk o k q.1.secret).row]=(l++[Sn.mk o k q.1.secret]).map Sn.row:=by simp
   rw[E]at A;refine⟨G.set s (some (.rows 7 [stR pa pb lv' now ls])),lv',?_,⟨if_pos rfl,A.keep rfl (xad _) fun x _ ho=>if_neg fun e:x=s=>(Z s h.lt h.ds).2 (by rw[<-e];exact ho),by show G.ro<=s;have:=h.ro;omega,xan h.lt a2,(Z s h.lt h.ds).2,h.ln⟩,a1,a2,fun x hx F=>⟨?_,?_⟩⟩
   ·clear A E;generalize(Sn.mk o k q.1.secret).row=OR at *;generalize q.1.cells=QC at *;generalize G.set s _=S2 at *;simp[-jl,f281,zdh,c0,J,M,N,v,O,P,w,y,m,j,zF,C,l1,l2,Y,X,D,qc,ql,qt,q3,q0,al,rc,rl,rt,am,aa,ap,aj,zj]
   ·exact(if_neg fun e=>F (.inl e)).trans (Z x hx fun e=>F (.inr e)).1
   ·rintro(e|e)
    ·exact F (.inl e)
    ·exact(Z x hx fun e=>F (.inr e)).2 e
  ·rw[if_neg q0,List.append_nil];have an:(q.2=0)=False:=eq_false q0;refine⟨S,lv,?_,h,Chg.refl⟩;generalize q.1.cells=QC at *;simp[f281,zdh,c0,J,M,N,v,O,P,w,y,m,j,zF,C,l1,l2,Y,X,D,qc,ql,qt,q3,an,zj]
end
def zbT(S:AS)(o:Nat->Prop)(R:List (List AV)):Prop:=∀r∈R,∃c n d s id,r=jP c n (.arr id 1 0 (List.length d) none) s/\S.heap id=some (.rows 1 (zv d))/\id<S.n/\¬o id/\d.length<=1000
theorem zbT.keep{S S':AS}{o o':Nat->Prop}{R:List (List AV)}(h:zbT S o R)(g:Chg S S' o o'):zbT S' o' R:=by
 intro r f;obtain⟨c,n,d,s,id,j,m,e,t,u⟩:=h r f;obtain⟨a,b⟩:=g.2.2 id e t;exact⟨c,n,d,s,id,j,a.trans m,xan e g.2.1,b,u⟩
def j5(ka:Nat)(La:Lop)(sv:List AV)(kb:Nat)(Lb:Loc)(s:Nat)(lv:AV)(x:Nat):Prop:=yn ka La sv x\/yB kb Lb x\/kg s lv x
structure Dl(us:List Us)(i:Nat)(S:AS)(s ka:Nat)(La:Lop)(kb:Nat)(Lb:Loc)(K KB:Kd)(RA RB:List (List AV))(lv:AV)(now:Int)(ls:List AV)(l:List Sn):Prop where
 p:yu us (yk us) i S ka La K RA
 q:yE us i S kb Lb KB RB
 st:vS S s (.ptr ka 0 0) (.ptr kb 0 0) lv now ls l
 d1:∀z,yn ka La (yk us) z->¬yB kb Lb z
 d2:∀z,yn ka La (yk us) z->¬kg s lv z
 d3:∀z,yB kb Lb z->¬kg s lv z
 io:zbT S (j5 ka La (yk us) kb Lb s lv) RA
section
variable{us:List Us}{i:Nat}{S S':AS}{s ka kb:Nat}{La La':Lop}{Lb Lb':Loc}{K KB K':Kd}{RA RB RA' RB':List (List AV)}{lv lv':AV}{now now':Int}{ls ls':List AV}{l l':List Sn}
theorem Dl.prog(h:Dl us i S s ka La kb Lb K KB RA RB lv now ls l)(hp:yu us (yk us) i S' ka La' K' RA')(g:Chg S S' (yn ka La (yk us)) (yn ka La' (yk us)))(m:RA'=RA\/∃c n d t,List.length d<=1000/\wq S S' (yn ka La' (yk us)) RA RA' (some (c,n,d,t))):
 Dl us i S' s ka La' kb Lb K' KB RA' RB lv now ls l/\Chg S S' (j5 ka La (yk us) kb Lb s lv) (j5 ka La' (yk us) kb Lb s lv):=by
 have G:Chg S S' (j5 ka La (yk us) kb Lb s lv) (j5 ka La' (yk us) kb Lb s lv):=Chg.big g (fun x e=>.inl e) fun x e=>e.elim .inl fun e=>.inr (.inr e);have nd:∀z,yn ka La (yk us) z->¬yB kb Lb z/\¬kg s lv z:=fun z b=>⟨h.d1 z b,h.d2 z b⟩;have A:yE us i S' kb Lb KB RB:=h.q.keep g.1 g.2.1 fun x o u=>(g.2.2 x o fun e=>(nd x e).1 u).1;have v:=h.st.keep g.1 g.2.1 fun x o u=>(g.2.2 x o fun e=>(nd x e).2 u).1;refine⟨⟨hp,A,v,fun z b f=>?_,fun z b f=>?_,h.d3,?_⟩,G⟩
 ·have a:=h.q.own_lt f;exact(g.2.2 z a fun e=>(nd z e).1 f).2 b
 ·have a:=h.st.own_lt f;exact(g.2.2 z a fun e=>(nd z e).2 f).2 b
 ·have old:=h.io.keep G;rcases m with rfl|⟨c,n,d,t,w,id,m,B,E,C,D⟩
  ·exact old
  ·intro r j;rw[m]at j;rcases xaE.1 j with y|y
   ·exact old r y
   ·rw[xaA.1 y];refine⟨c,n,d,t,id,rfl,B,C,?_,w⟩;rintro(e|e|e)
    ·exact D e
    ·have:=h.q.own_lt e;omega
    ·have:=h.st.own_lt e;omega
theorem Dl.doc(h:Dl us i S s ka La kb Lb K KB RA RB lv now ls l)(m:yE us i S' kb Lb' K' RB')(g:Chg S S' (yB kb Lb) (yB kb Lb')):
 Dl us i S' s ka La kb Lb' K K' RA RB' lv now ls l/\Chg S S' (j5 ka La (yk us) kb Lb s lv) (j5 ka La (yk us) kb Lb' s lv):=by
 have G:Chg S S' (j5 ka La (yk us) kb Lb s lv) (j5 ka La (yk us) kb Lb' s lv):=Chg.big g (fun x e=>.inr (.inl e)) fun x e=>by
  rcases e with e|e|e
  ·exact .inr (.inl e)
  ·exact .inl e
  ·exact .inr (.inr (.inr e))
 have hp:yu us (yk us) i S' ka La K RA:=h.p.keep g.1 g.2.1 fun x d f=>(g.2.2 x d (h.d1 x f)).1;have j:=h.st.keep g.1 g.2.1 fun x d f=>(g.2.2 x d fun e=>h.d3 x e f).1;refine⟨⟨hp,m,j,fun z a b=>?_,h.d2,fun z a b=>?_,h.io.keep G⟩,G⟩
 ·exact(g.2.2 z (h.p.own_lt a) (h.d1 z a)).2 b
 ·exact(g.2.2 z (h.st.own_lt b) fun e=>h.d3 z e b).2 a
theorem Dl.state(h:Dl us i S s ka La kb Lb K KB RA RB lv now ls l)(j:vS S' s (.ptr ka 0 0) (.ptr kb 0 0) lv' now' ls' l')(g:Chg S S' (kg s lv) (kg s lv')):
 Dl us i S' s ka La kb Lb K KB RA RB lv' now' ls' l'/\Chg S S' (j5 ka La (yk us) kb Lb s lv) (j5 ka La (yk us) kb Lb s lv'):=by
 have G:Chg S S' (j5 ka La (yk us) kb Lb s lv) (j5 ka La (yk us) kb Lb s lv'):=Chg.big g (fun x e=>.inr (.inr e)) fun x e=>by
  rcases e with e|e|e
  ·exact .inr (.inl e)
  ·exact .inr (.inr (.inl e))
  ·exact .inl e
 have hp:yu us (yk us) i S' ka La K RA:=h.p.keep g.1 g.2.1 fun x b d=>(g.2.2 x b (h.d2 x d)).1;have m:yE us i S' kb Lb KB RB:=h.q.keep g.1 g.2.1 fun x b d=>(g.2.2 x b (h.d3 x d)).1;refine⟨⟨hp,m,j,h.d1,fun z a f=>?_,fun z a f=>?_,h.io.keep G⟩,G⟩
 ·exact(g.2.2 z (h.p.own_lt a) (h.d2 z a)).2 f
 ·exact(g.2.2 z (h.q.own_lt a) (h.d3 z a)).2 f
theorem zHD{K:Kd}{x:Tlk}{base:T}{c n:ByteArray}{d:List ByteArray}{s:T}(h:(K.reqD x base).2.2=some (c,n,d,s)):d.length=x.u.set.length:=by
 unfold Kd.reqD at h;split at h
 ·rename_i e;cases h;exact e
 ·split at h<;>cases h
theorem zHI{K:Kd}{t:T}{tm:Int}(b:t.lo){c n:ByteArray}{d:List ByteArray}{s:T}(h:(K.req t tm).2.2=some (c,n,d,s)):d.length=K.u.set.length:=by
 have ok:=zmh (K:=K) (now:=tm) b;unfold Kd.req at h;generalize K.opens t tm=r at *;unfold Kd.reqX at h;split at h
 ·rename_i e;have f:=ok.u e;split at h
  ·rename_i nx _;cases a:yR r.2.1 with
   |true=>rw[zjx a]at h;cases h
   |false=>
    rw[zmy a]at h;split at h
    ·have:=zHD h;rw[this];show r.1.u.set.length=_;rw[f]
    ·cases h
  ·cases h
 ·cases h
theorem zBe{o:Nat->Prop}{x:Isd}(h:wq S S' o RA RA' x)(a:∀c n d s,x=some (c,n,d,s)->List.length d<=1000):RA'=RA\/∃c n d t,List.length d<=1000/\wq S S' o RA RA' (some (c,n,d,t)):=by
 match x,h,a with
 |none,h,_=>exact .inl h
 |some (c,n,d,t),h,a=>exact .inr ⟨c,n,d,t,a c n d t rfl,h⟩
theorem Dl.ask(h:Dl us i S s ka La kb Lb K KB RA RB lv now ls l)(m:K.okk)(b:∀s∈K.u.set,isM s)(x:RA.length<=900){t:T}{tm:Int}(o:t.lo)(f:tm.natAbs<=100000000000000)(j:∀r,ku t=some r->vD us i K.u r):
 ∃S' La' RA',call 168 [.ptr ka 0 0,.agg t.cells,.sc (.int .i64 tm)] S=some (.agg (K.req t tm).1.cells,S')/\Dl us i S' s ka La' kb Lb (K.req t tm).2.1 KB RA' RB lv now ls l/\Chg S S' (j5 ka La (yk us) kb Lb s lv) (j5 ka La' (yk us) kb Lb s lv)/\RA'.length=RA.length+(if(K.req t tm).2.2.isSome then 1 else 0)/\wq S S' (yn ka La' (yk us)) RA RA' (K.req t tm).2.2:=by
 obtain⟨v,La',RA',e,w,g,a⟩:=zBq h.p m b (by omega) o f j;obtain⟨d,G⟩:=h.prog w g (zBe a fun c n d s e=>by have:=zHI o e;have:=m.set2;omega);refine⟨v,La',RA',e,d,G,?_,a⟩
 match(K.req t tm).2.2,a with
 |none,h=>rw[show RA'=RA from h];rfl
 |some (c,n,d,s),⟨id,h,_⟩=>rw[h];simp
theorem zr1(h:Dl us i S s ka La kb Lb K K RA RB lv now ls l)(hK:K.okk)(j:∀s∈K.u.set,isM s)(hR:RA.length<=900)(ad:RB.length<=900)(hl:l.length<=100){who n kind at_ back:Int}{tcs:List AV}{o:Sn}{pd:T}(hw:who=0\/who=1)(hn:0<=n/\n<=3)
 (O:tcs.length=3/\tcs.all AV.isCell=true) (hb:(back=0/\l.getLast?=some o)\/(back=7/\o=zdM)) (m:0<=now/\now<=1000000) (hp:zga kind at_ tcs (cq (zbN who) (zN n)) o now pd)
 {t:T} (V:t=(cq (zbN who) (zN n)).says pd o.cookie) (v:t.lo) (w:∀cl,ku t=some cl->vD us i K.u cl) (x:(K.req t now).1.lo):
 ∃S' La' Lb' lv' RA' RB',call 166 [.ptr s 0 0,.agg (jW who n kind at_ back tcs)] S=some (.b true,S')/\Dl us i S' s ka La' kb Lb' (K.req t now).2.1 (K.req t now).2.1 RA' RB' lv' now t.cells (l++zdG (cq (zbN who) (zN n)) (K.req t now).1 now)/\
  Chg S S' (j5 ka La (yk us) kb Lb s lv) (j5 ka La' (yk us) kb Lb' s lv')/\RA'.length=RA.length+(if(K.req t now).2.2.isSome then 1 else 0)/\RB'.length<=RB.length+1/\wq S S' (yn ka La' (yk us)) RA RA' (K.req t now).2.2:=by
 rw[z8 zvV (by simp) rfl];have l3:∀d rg,ze (.ld none 1 false) d rg S [.ptr s 0 3]=some (.sc (.int .i64 now),none,S):=fun d rg=>by rw[zY h.st.hh];rfl
 have y:∀d rg,ze (.st none 1) d rg S [.ptr s 0 3,.sc (.int .i64 now)]=some (.junk,none,S.set s (some (.rows 7 [stR (.ptr ka 0 0) (.ptr kb 0 0) lv now ls]))):=fun d rg=>by
  simp only[ze,h.st.hh,AV.cells];rw[if_pos ⟨h.st.ro,rfl,rfl⟩];simp only[xas,xae];rw[if_pos (by show 3+1<=(stR (.ptr ka 0 0) (.ptr kb 0 0) lv now ls).length;unfold stR;simp[h.st.ln])];rfl
 obtain⟨s1,g1⟩:=h.st.set (now':=now) (ls':=ls) h.st.ln;obtain⟨g,G1⟩:=h.state s1 g1;generalize S.set s _=z at *;have f:=zr2 (S:=z) g.st.hh g.st.gv (by omega) hw hn O hb m hp;rw[<-V]at f;have la:∀d rg,ze (.ld none 1 false) d rg z [.ptr s 0 0]=some (.ptr ka 0 0,none,z):=fun d rg=>by rw[zY g.st.hh];rfl
 have W:∀d rg,ze (.ld none 1 false) d rg z [.ptr s 0 3]=some (.sc (.int .i64 now),none,z):=fun d rg=>by rw[zY g.st.hh];rfl
 obtain⟨P,La',RA',A,U,G2,B,X⟩:=g.ask hK j hR v (tm:=now) (by omega) w;have lb:∀d rg,ze (.ld none 1 false) d rg P [.ptr s 0 1]=some (.ptr kb 0 0,none,P):=fun d rg=>by rw[zY U.st.hh];rfl
 have Y:∀d rg,ze (.ld none 1 false) d rg P [.ptr s 0 3]=some (.sc (.int .i64 now),none,P):=fun d rg=>by rw[zY U.st.hh];rfl
 obtain⟨Z,Lb',RB',C,q3,g3,D⟩:=zsx U.q hK (by omega) v (now:=now) (by omega) w;obtain⟨E,G3⟩:=U.doc q3 g3;generalize ae:K.req t now=r at *;have F:∀d rg,ze (.st none 3) d rg Z [.ptr s 0 4,.agg t.cells]=some (.junk,none,Z.set s (some (.rows 7 [stR (.ptr ka 0 0) (.ptr kb 0 0) lv now t.cells]))):=fun d rg=>by
  have af:(stR (.ptr ka 0 0) (.ptr kb 0 0) lv now ls).length=7:=by unfold stR;simp[E.st.ln]
  have hd:List.drop 7 (stR (.ptr ka 0 0) (.ptr kb 0 0) lv now ls)=[]:=xaB (by omega);simp only[ze,E.st.hh,AV.cells];rw[if_pos ⟨E.st.ro,by rw[zq];rfl,by rw[zq];rfl⟩];simp only[xas,xae];rw[if_pos (by omega)];have:setCells (stR (.ptr ka 0 0) (.ptr kb 0 0) lv now ls) 4 t.cells=stR (.ptr ka 0 0) (.ptr kb 0 0) lv now t.cells:=by
   unfold setCells;have aa:t.cells.length=3:=by rw[zq];rfl
   rw[aa,hd,List.append_nil];rfl
  rw[this];rfl
 obtain⟨s4,g4⟩:=E.st.set (now':=now) (ls':=t.cells) (by rw[zq];rfl);obtain⟨D4,G4⟩:=E.state s4 g4;generalize Z.set s _=S4 at *;obtain⟨S5,lv',G,s5,g5⟩:=zBt (who:=who) (n:=n) (kind:=kind) (at_:=at_) (back:=back) (tcs:=tcs) (t:=r.1) (nm:=zbN who) D4.st hl hn O x;obtain⟨D5,G5⟩:=D4.state s5 g5;have H:=fun S=>@s61 r.1 r.1 S (T.fits_bulk x);rw[T.same_self]at H;refine⟨S5,La',Lb',lv',RA',RB',?_,D5,G1.trans (G2.trans (G3.trans (G4.trans G5))),B,D.len,?_⟩
 ·obtain⟨t0,t1,t2,rfl⟩:∃a b c,tcs=[a,b,c]:=by
   match tcs,O.1 with
   |[a,b,c],_=>exact⟨a,b,c,rfl⟩
  have I:t0.isCell=true/\t1.isCell=true/\t2.isCell=true:=by simpa using O.2
  obtain⟨c0,c1,c2⟩:=I;have w0:IntKind.i64.wrap now=now:=w64 (by omega);have ac:(jW who n kind at_ back [t0,t1,t2]).all AV.isCell=true:=by unfold jW;simp[c0,c1,c2]
  have al:(jW who n kind at_ back [t0,t1,t2]).length=11:=rfl;have J:List.take 11 (jW who n kind at_ back [t0,t1,t2])=jW who n kind at_ back [t0,t1,t2]:=rfl;have a6:List.take 1 (List.drop 6 (jW who n kind at_ back [t0,t1,t2]))=[.i 0]:=rfl;have ab:List.take 1 (List.drop 10 (jW who n kind at_ back [t0,t1,t2]))=[.b false]:=rfl;have M:List.drop 10 (jW who n kind at_ back [t0,t1,t2])=[.b false]:=rfl;generalize jW who n kind at_ back [t0,t1,t2]=AR at *;simp[f166,zpt,zj,ac,al,J,a6,ab,M,l3,w0,y,f,la,W,A,lb,Y,C,F,G,H]
 ·match r.2.2,X with
  |none,h=>exact h
  |some (c,n,d,ss),⟨id,h1,h2,h3,h4,h5⟩=>
   have hD:¬j5 ka La' (yk us) kb Lb s lv id:=by
    rintro(e|e|e)
    ·exact h5 e
    ·have:=g.q.own_lt e;omega
    ·have:=g.st.own_lt e;omega
   have N:=G3.trans (G4.trans G5);obtain⟨x1,x2⟩:=N.2.2 id h4 hD;exact⟨id,h1,x1.trans h2,by have:=G1.2.1;omega,xan h4 N.2.1,fun e=>x2 (.inl e)⟩
end
noncomputable def zd0(t:T):Int:=(zaZ t).getD 0
section
variable{S:AS}
theorem zII{t:T}:call 170 [.agg t.cells] S=some (.sc (.int .i64 (zd0 t)),S):=by
 rw[zi zvX rfl (by simp) rfl];have a:=fun S=>@s97 S t;unfold zd0;cases h:zaZ t with
 |none=>rw[h]at a;simp[zeM,zkU,a,yM]
 |some n=>rw[h]at a;simp[zeM,zkU,a,yM]
theorem zB4{b d sz:Nat}{R:List (List AV)}(h:zI (zI (S.frzTo b d)) R=some R):S.frzTo b d (lstN sz R)=some (lstN sz R):=by
 cases R with
 |nil=>show S.frzTo b d (.lst 0 false [])=_;rw[ziR];rfl
 |cons a l=>show S.frzTo b d (.lst sz false (a::l))=_;rw[ziR,h];rfl
theorem zl1{sz:Nat}{R:List (List AV)}(h:qo R=true):(lstN sz R).pure=true:=by
 cases R with
 |nil=>show(AV.lst 0 false []).pure=true;simp[AV.pure,qo]
 |cons a l=>show(AV.lst sz false (a::l)).pure=true;simp only[AV.pure];exact h
theorem zjC{b d:Nat}:∀{l:List Us},zI (zI (S.frzTo b d)) (l.map Us.row)=some (l.map Us.row)
 |[]=>rfl
 |u::l=>by
  show(zI (S.frzTo b d) u.row).bind (fun x=>(zI (zI (S.frzTo b d)) (l.map Us.row)).map (x::·))=_;rw[Us.frz,zjC];rfl
theorem zmE:∀{l:List Us},qo (l.map Us.row)=true
 |[]=>by simp[qo]
 |u::l=>by rw[xao,qo,Us.pure,zmE];rfl
end
section
variable{us:List Us}{sv:List AV}{i:Nat}{S:AS}{k:Nat}{L:Lop}{K:Kd}{R:List (List AV)}
theorem zIM{kb g:Nat}{u:Us}(h:AtBp S kb g us sv i u)(I:g<S.n):call 225 [.ptr kb 0 0] S=some (lstN 15 ((us.set i u).map Us.row),S):=by
 rw[zi zwg rfl (by simp) rfl];have h':=h.ro S.n;have ab:=h.sl;have ac:=h.sm;have y:(us.set i u).length=us.length:=List.length_set;obtain⟨l,G⟩:∃l,l=us.set i u:=⟨_,rfl⟩;rw[<-G]at y ⊢;have z:=fun {j w v} (a:l[j]?=some w) (b:sv[j]?=some v)=>@AtBp.row {S with ro:=S.n} kb g us sv i u h' j w v (by rw[<-G];exact a) b;have A:=fun {j w v} (a:l[j]?=some w) (b:sv[j]?=some v)=>h.hs j w v (by rw[<-G];exact a) b
 let S0:AS:=⟨S.heap,S.n,S.n⟩
 simp only[zhf];simp[-zg,zpH,h'.list];refine zdI (α:=Nat) (R:=fun _ r=>zW S r=some (lstN 15 (l.map Us.row),S)) (fun q e rg S'=>q<=us.length/\NQ [5,12,13,14,15,16,17,18,19,20] [5] e/\e 9=.arr g 15 0 us.length none/\e 10=.sc (.int .i64 (us.length:Nat))/\e 11=.sc (.int .i64 (q:Nat))/\Own S0 S' 15 (e 3) ((l.take q).map Us.row)) (fun q=>us.length-q) (fun _ _ _ _ h=>h.2.1) ?_ 0 _ _ _ ?_;rotate_left
 ·refine⟨by omega,?_,by simp,by simp,by simp,?_⟩
  ·repeat (first|exact zan rfl|refine vC ?_ (by simp)|refine NQ_fgt2 ?_)
  ·simp;exact zcB (xad _)
 intro kk J q e rg S' ⟨hq,B,h9,m,C,o⟩ ih;have t:=o.reg;by_cases hc:q<us.length
 ·obtain⟨w,H⟩:=yV (l:=l) (i:=q) (by omega);obtain⟨v,M⟩:=yV (l:=sv) (i:=q) (by omega);have hr:=z H M;obtain⟨hs,ad⟩:=A H M;have N:∀d rg,ze (.ld none 15 true) d rg S' [.ptr g q 0]=some (.agg (w.rowV v),none,S'):=by
   intro d rg;have hz:S'.heap g=some (.rows 15 (List.zipWith Us.rowV l sv)):=by
    rw[o.old.heap g I,G];exact h.h2
   rw[zY hz,zf6 H M];rfl
  have O:=@atm g us q hc;have P:j8 S' v w.set:=(hs.ro S.n).keep o.old.n (fun x hx _=>o.old.heap x hx);have D:=zmX P (by omega);obtain⟨v',U,V,E,q1,q2,q3⟩:=o.push (n:=q) (bytes:=192) (r:=w.row) (f:=true) (d:=none) (rg:=fun _=>none) (by rw[xaH,List.length_take];omega) (by omega);have V:∀d rg,ze (.append 15 192) d rg S' [e 3,.lst 15 true [w.row]]=some (v',none,U):=fun d rg=>V;have W:(q:Int)<(us.length:Int):=by omega
  have w2:IntKind.i64.wrap ((q:Int)+1)=((q+1:Nat):Int):=w64 (by omega);have wc:=@Us.row_cell w;have wl:=@Us.row_len w;have X:=@zd8 w v hs.cell;have Y:=@zfO w v;have Z:=@zmC w v;have F:(l.take q).map Us.row++[w.row]=(l.take (q+1)).map Us.row:=by rw[xav,H];simp
  rw[F]at E;generalize w.rowV v=RV at *;generalize w.row=RW at *;simp[-zg,zk4,h9,m,C,W,hc,O,N,X,Y,Z,D,wc,wl,t,V,q1,w2,zj];refine ih (q+1) _ _ _ (by omega) (fun _ h=>h) ⟨by omega,?_,by simp[h9],by simp[m],by simp,by simpa using E⟩
  repeat (first|exact B|exact zcM B|refine vC ?_ (by simp[t,q1])|refine NQ_fgt2 ?_)
 ·have aa:q=us.length:=by omega
  subst aa;rw[List.take_of_length_le (by omega)]at o;have hf:=o.frz (b:=S.n) (d:=1) (xad _) zjC zjC;have hp:(lstN 15 (l.map Us.row)).pure=true:=zl1 zmE;simp[-zg,zk4,m,C];rw[J];simp[hf,hp,t]
theorem zIw(h:yu us sv i S k L K R):call 119 [.ptr k 0 0] S=some (lstN 15 ((us.set i K.u).map Us.row),S):=by
 rw[zi zvz rfl (by simp) rfl];have e:=(h.at_.ro S.n).users;have a:=zIM (S:={S with ro:=S.n}) (h.b.toAtBp.ro S.n) h.b.l2;have f:∀b d,({S with ro:=S.n}:AS).frzTo b d (lstN 15 ((us.set i K.u).map Us.row))=some (lstN 15 ((us.set i K.u).map Us.row)):=fun b d=>zB4 zjC;have hp:(lstN 15 ((us.set i K.u).map Us.row)).pure=true:=zl1 zmE;generalize lstN 15 ((us.set i K.u).map Us.row)=V at *;have g:V.isReg=false:=by
  cases V<;>first|rfl|(simp[AV.pure]at hp)
 simp[zgM,zpd,e,a,g,f,hp]
end
abbrev Iq:=ByteArray×ByteArray×List ByteArray×T
def Iq.row(q:Iq)(a:AV):List AV:=jP q.1 q.2.1 a q.2.2.2
structure zj2(S:AS)(R:List (List AV))(Q:List Iq):Prop where
 len:R.length=Q.length
 at_:∀(j:Nat) (q:Iq),Q[j]?=some q->∃id,R[j]?=some (Iq.row q (.arr id 1 0 q.2.2.1.length none))/\S.heap id=some (.rows 1 (zv q.2.2.1))/\id<S.n
 sz:∀q∈Q,q.2.2.1.length<=1000
theorem zi3{q:Iq}{a:AV}:Iq.row q a=.sc (.string q.1)::.sc (.string q.2.1)::a::q.2.2.2.cells:=rfl
theorem zA4{S:AS}{q:Iq}{a:AV}{b d:Nat}(h:S.frzTo b d a=some (zk q.2.2.1)):zI (S.frzTo b d) (Iq.row q a)=some (Iq.row q (zk q.2.2.1)):=by
 rw[zi3,zi3,zq];simp[h]
theorem zA5{q:Iq}:jR (Iq.row q (zk q.2.2.1))=true:=by rw[zi3,zq];simp
theorem zrP:∀{Q:List Iq},qo (Q.map fun q=>Iq.row q (zk q.2.2.1))=true
 |[]=>by simp[qo]
 |q::Q=>by rw[xao,qo,zA5,zrP];rfl
theorem zrO{S:AS}{b d:Nat}:∀{Q:List Iq} {R:List (List AV)},R.length=Q.length->(∀(j:Nat) (q:Iq),Q[j]?=some q->∃a,R[j]?=some (Iq.row q a)/\S.frzTo b d a=some (zk q.2.2.1))->zI (zI (S.frzTo b d)) R=some (Q.map fun q=>Iq.row q (zk q.2.2.1))
 |[],[],_,_=>rfl
 |q::Q,r::R,hl,h=>by
  obtain⟨a,e,f⟩:=h 0 q rfl;have e:r=Iq.row q a:=Option.some.inj e;show(zI (S.frzTo b d) r).bind (fun x=>(zI (zI (S.frzTo b d)) R).map (x::·))=_;rw[e,zA4 f,zrO (Q:=Q) (R:=R) (by simpa using hl) fun j g m=>h (j+1) g m];rfl
theorem zbT.q{S:AS}{o:Nat->Prop}:∀{R:List (List AV)},zbT S o R->∃Q,zj2 S R Q
 |[],_=>⟨[],rfl,fun j q h=>by simp at h,by simp⟩
 |r::R,h=>by
  obtain⟨Q,b⟩:=zbT.q (R:=R) (S:=S) (o:=o) fun r f=>h r (List.mem_cons_of_mem _ f);obtain⟨c,n,d,s,id,g,m,t,_,u⟩:=h r (by simp);refine⟨(c,n,d,s)::Q,by simp[b.len],fun j q e=>?_,fun q a=>?_⟩
  ·cases j with
   |zero=>cases e;exact⟨id,by rw[g];rfl,m,t⟩
   |succ j=>exact b.at_ j q e
  ·rcases xaz.1 a with rfl|a
   ·exact u
   ·exact b.sz q a
section
variable{us:List Us}{sv:List AV}{i:Nat}{S:AS}{k:Nat}{L:Lop}{K:Kd}{R:List (List AV)}{Q:List Iq}
theorem zmL(h:yu us sv i S k L K R)(F:zj2 S R Q)(hR:R.length<=1000):call 102 [.ptr k 0 0] S=some (lstN 6 (Q.map fun q=>Iq.row q (zk q.2.2.1)),S):=by
 rw[zi zvq rfl (by simp) rfl];have h':=(h.at_.ro S.n).issued;have ad:GV {S with ro:=0} 6 L.iv R:=by
  rcases h.gv with⟨a,b⟩|⟨id,a,b,c,d⟩
  ·exact .inl ⟨a,b⟩
  ·exact .inr ⟨id,a,b,Nat.zero_le _,d⟩
 have G:zD 6 {S with ro:=S.n} L.iv=some R:=by
  rcases h.gv with⟨H,e2⟩|⟨id,H,b,_,_⟩
  ·rw[H,e2];simp[zD]
  ·rw[H];simp only[zD,if_true];exact wk (S:={S with ro:=S.n}) b (Nat.zero_le _)
 have A:=h.gv.reg;have t:call 207 [L.iv] {S with ro:=S.n}=some (.arr S.n 6 0 R.length none,({S with ro:=S.n}:AS).new (.rows 6 R)):=by
  rw[show call 207 [L.iv] {S with ro:=S.n}=jN 6 104 [L.iv] {S with ro:=S.n} from zbh zv8 (by simp[A])];show(zD 6 {S with ro:=S.n} L.iv).bind _=_;rw[G];simp only[xae];rw[if_pos (by omega)]
 obtain⟨S1,f⟩:∃S1,S1=({S with ro:=S.n}:AS).new (.rows 6 R):=⟨_,rfl⟩;rw[<-f]at t;simp only[zgH];simp[-zg,zpb,h',t,A];have ac:=F.len;refine y8 (α:=Nat) (R:=fun _ r=>zW S r=some (lstN 6 (Q.map fun q=>Iq.row q (zk q.2.2.1)),S)) (fun q e rg S'=>q<=R.length/\e 3=.arr S.n 6 0 R.length none/\e 11=.sc (.int .i64 (R.length:Nat))/\e 12=.sc (.int .i64 (q:Nat))/\S'.ro=S.n/\S.n<S'.n/\
  ∃z:List (List AV),S'.heap S.n=some (.rows 6 z)/\z.length=R.length/\∀(j:Nat) (p:Iq),Q[j]?=some p->∃id,z[j]?=some (Iq.row p (.arr id 1 0 p.2.2.1.length none))/\S'.heap id=some (.rows 1 (zv p.2.2.1))/\id<S'.n/\id≠S.n/\(j<q->S.n<id)) (fun q=>R.length-q) ?_ 0 _ _ _ ?_
 rotate_left
 ·refine⟨by omega,by simp,by simp,by simp,by rw[f];rfl,by rw[f];exact xay _,R,by rw[f];exact jX,rfl,fun j p hp=>?_⟩;obtain⟨id,h1,h2,E⟩:=F.at_ j p hp;exact⟨id,h1,by rw[f];exact(if_neg (by show id≠S.n;omega)).trans h2,by rw[f];show id<S.n+1;omega,by omega,fun h=>by omega⟩
 intro kk I q e rg S' ⟨hq,E,v,B,J,hn,z,M,hl,m⟩ ih;by_cases hc:q<R.length
 ·obtain⟨p,hp⟩:=yV (l:=Q) (i:=q) (by omega);obtain⟨id,g1,g2,g3,g4,_⟩:=m q p hp;have C:(q:Int)<(R.length:Int):=by omega
  have w2:IntKind.i64.wrap ((q:Int)+1)=((q+1:Nat):Int):=w64 (by omega);have N:pev (.iaddr 6) [.arr S.n 6 0 R.length none,.sc (.int .i64 (q:Int))]=some (.ptr S.n q 0):=by
   rw[zdW (by omega) (by omega)];simp
  have O:∀d rg,ze (.ld none 1 false) d rg S' [.ptr S.n q 2]=some (.arr id 1 0 p.2.2.1.length none,none,S'):=fun d rg=>by
   rw[zY M,g1];rfl
  have ae:=F.sz p (xaj hp);have P:j8 S' (.arr id 1 0 p.2.2.1.length none) p.2.2.1:=.inr ⟨id,rfl,g2,g3⟩;have u:=zgr P (by omega);obtain⟨o,g⟩:∃o,o=S'.new (.rows 1 (zv p.2.2.1)):=⟨_,rfl⟩;rw[<-g]at u;have n2:o.n=S'.n+1:=by rw[g];rfl
  have D:∀x,x<S'.n->o.heap x=S'.heap x:=fun x hx=>by rw[g];exact if_neg (by omega)
  have U:∀d rg,ze (.st none 1) d rg o [.ptr S.n q 2,.arr S'.n 1 0 p.2.2.1.length none]=some (.junk,none,o.set S.n (some (.rows 6 (z.set q (Iq.row p (.arr S'.n 1 0 p.2.2.1.length none)))))):=fun d rg=>by
   simp only[ze,(D S.n hn).trans M,AV.cells];rw[if_pos ⟨by rw[g];show S'.ro<=S.n;omega,rfl,rfl⟩,g1];simp only[xae];have V:(Iq.row p (.arr id 1 0 p.2.2.1.length none)).length=6:=by rw[zi3,zq];rfl
   rw[if_pos (by rw[V];show 2+1<=6;omega)];rfl
  simp[-zg,zkM,E,v,B,C,hc,N,O,u,U,w2];refine ih (q+1) _ _ _ (by omega) (fun _ h=>h) ⟨by omega,by simp[E],by simp[v],by simp,by rw[g];exact J,by show S.n<o.n;omega,_,if_pos rfl,by rw[List.length_set];exact hl,fun j p' w=>?_⟩;by_cases hj:j=q
  ·subst hj;rw[hp]at w;cases w;refine⟨S'.n,by rw[List.getElem?_set_self (by omega)],?_,by show S'.n<o.n;omega,by omega,fun _=>hn⟩;exact(if_neg (by omega)).trans (by rw[g];exact jX)
  ·obtain⟨y,W,X,a3,Y,Z⟩:=m j p' w;refine⟨y,by rw[List.getElem?_set_ne (by omega)];exact W,(if_neg Y).trans ((D y a3).trans X),by show y<o.n;omega,Y,fun h=>Z (by omega)⟩
 ·have aa:q=R.length:=by omega
  subst aa;have C:¬(R.length:Int)<(R.length:Int):=by omega
  have ab:zI (zI (S'.frzTo S.n 1)) z=some (Q.map fun q=>Iq.row q (zk q.2.2.1)):=zrO (by omega) fun j p hp=>by
   obtain⟨id,W,X,a3,Y,Z⟩:=m j p hp;have hj:j<Q.length:=(xal.1 hp).1;exact⟨_,W,znZ (d:=0) X (Nat.le_of_lt (Z (by omega)))⟩
  have hf:S'.frzTo S.n 2 (.arr S.n 6 0 R.length none)=some (lstN 6 (Q.map fun q=>Iq.row q (zk q.2.2.1))):=by
   have hs:=wk M (xad S.n);rw[hl]at hs;rw[ziQ hs,ab];rfl
  have hp:(lstN 6 (Q.map fun q=>Iq.row q (zk q.2.2.1))).pure=true:=zl1 zrP;simp[-zg,zkM,v,B];rw[I];simp[E,hf,hp]
end
structure Kw(K:Kd)(nm:ByteArray):Prop where
 key:K.key=zB kc
 cookies:K.cookies=zB vH
 un:K.u.name=nm
 uk:K.u.key=zak (zB (pwN nm)) nm
 sd:K.u.seed=zB (sdN nm)
 set:kN K.u.set
 n:0<=K.n/\K.n<=800
 ca:K.cache.length<=100
 tk:0<=K.u.tok.fails/\K.u.tok.fails<=1000
 fl:0<=K.u.fails/\K.u.fails<=1000
theorem zA7{s:ByteArray}(h:isM s):s.size<=9:=by
 rcases h with rfl|rfl|rfl
 ·show 9<=9;omega
 ·show 3<=9;omega
 ·show 5<=9;omega
section
variable{K:Kd}{nm:ByteArray}{n:Int}
theorem Kw.okk(h:Kw K nm)(b:nm.size<=10):K.okk:=
 ⟨by rw[h.cookies];exact zkf (by show 6<=_;omega),h.set.l1,by have:=h.set.l3;omega,fun s a=>by have:=zA7 (h.set.im s a);omega,by rw[h.un];omega,by have:=h.tk;omega,by have:=h.fl;omega,by have:=h.n;omega,by have:=h.ca;omega⟩
theorem Kw.fz(h:Kw K nm)(b:K.u.fails=0)(a:nm≠⟨#[]⟩):Fz (cq nm (zN n)) K:=
 ⟨rfl,by rw[h.key];exact zyL,rfl,a,vE (by show 1≠0;omega),h.un,b⟩
theorem zCE(b:0<=n/\n<=3):(zN n).size<=30:=by
 have a:=vN (n:=n) (by omega) (by omega);unfold zN;rw[xai];have:(⟨#[110]⟩:ByteArray).size=1:=rfl;omega
theorem Kw.tz(h:Kw K nm)(D:nm.size<=10)(u:0<=n/\n<=3):Tz (cq nm (zN n)) K:=by
 have v:=zCE u;have E:qL.size=4:=rfl;have F:kc.size=3:=rfl;have z3:vH.size=6:=rfl;have j:Ti jY 1 1004:=zjQ (by decide) (by omega);have G:(vh (zN n)).size<=40:=by unfold vh;rw[xai];have:(⟨#[115,117,98,32]⟩:ByteArray).size=4:=rfl;omega
 have o:Ti (zB (vh (zN n))) 1 1004:=zjQ (vE (by show 4≠0;omega)) (by omega);have r:(pwN nm).size<=1000:=by unfold pwN;rw[xai];have:(⟨#[112,97,115,115,119,111,114,100,32]⟩:ByteArray).size=9:=rfl;omega
 have w:(sdN nm).size<=1000:=by unfold sdN;rw[xai];have:(⟨#[115,101,101,100,32]⟩:ByteArray).size=5:=rfl;omega
 have a:pwN nm≠⟨#[]⟩:=vE (by show 9≠0;omega);have e:sdN nm≠⟨#[]⟩:=vE (by show 5≠0;omega);obtain⟨x,j2⟩:=zdD (f:=zei) (by show 11<=90;omega);obtain⟨j3,y⟩:=zdD (f:=zel) (by show 11<=90;omega);have z:=zjS (zjT (d:=2) (.cons (za7 o x j2) (.cons (za7 j j3 y) .nil (by omega)) (by omega)));have A:=za8 (n:=vF) (m:=4) (d:=1) (by decide) (xad _) (.cons (zjR (n:=eqB nm) (m:=1001) zny (by rw[zgE];omega)) (.cons (zjR (n:=eqB (zN n)) (m:=1001) zny (by rw[zgE];omega)) .nil (by omega)) (by omega)) (by omega);have g:inI 2:=by unfold inI;omega
 refine⟨z.up (by omega) (by omega),zu0 a r (by omega),A.up (by omega) (by omega),(zjQ e w).up (by omega) (by omega),by rw[h.uk];exact zu0 a r (by omega),?_,by rw[h.cookies];exact atT.fit ⟨vH,rfl,by decide,by omega⟩,by rw[h.cookies,zcT];omega,by rw[h.key,zcT];omega,by show nm.size<=_;omega,by show(zN n).size<=_;omega⟩;have B:=zee (k:=zB kc) (t:=zG qL [jY]) (n:=2) g;have C:=zee (k:=jY) (t:=zG vp [zB (vh (zN n))]) (n:=11) i11;rw[wh,yA,jA]at B C;have H:=j.b;have I:=o.b;have J:(zB kc).bulk=7:=by rw[zcT];rfl
 have M:jY.bulk=8:=by show(zB qL).bulk=_;rw[zcT];rfl
 have N:vp.size=4:=rfl;have O:kR.size=5:=rfl;show(zG kR [jk (zB kc) 2 (zG qL [jY]),jk jY 11 (zG vp [zB (vh (zN n))])]).bulk<=_;rw[wh,yA,yA,jA];omega
end
theorem zom{nm a:ByteArray}{p q:T}(b:nm≠⟨#[]⟩)(d:a≠⟨#[]⟩):ku ((cq nm a).says p q)=some nm:=by
 unfold ku Cl.says;rw[zke];show(jL (wO nm a)).map _=_;rw[zkm b d];rfl
theorem zsC{n:Int}:zN n≠⟨#[]⟩:=vE (by show 1≠0;omega)
section
variable{c:Cl}{K:Kd}{nx:ByteArray}{rest:List ByteArray}{now:Int}{p s:T}
theorem zHH(h:Fz c K)(a:K.u.set=nx::rest):K.req (c.says zw zw) now=(kJ c.ak c.nonce (zG jQ [jH K.u nx (K.offS nx),yJ K.cookies ⟨c.name,c.nonce,[],K.offS nx,now+100⟩]),K.offK nx,none):=by
 unfold Kd.req;rw[zF9 h];have b:K.u.set[([]:List ByteArray).length]?=some nx:=by rw[a];rfl
 unfold Kd.reqX;simp only[if_true,b];rw[zjx zrQ,zFV (c:=c) (K:=K) rfl rfl rfl rfl rfl rfl rfl]
theorem zHG(h:Fz c K)(e:Tz c K)(f:s.fit=true)(a:K.u.set=nx::rest){up:Int}(g:inI up)(o:now<=up):
 K.req (c.says p (yJ K.cookies ⟨c.name,c.nonce,[],s,up⟩)) now=K.reqN ⟨c.ak,c.body,⟨c.name,c.nonce,[],s,up⟩,K.u,now⟩ p now nx:=by
 have j:=zzJ (done:=[]) (t0:=up) e f;have m:jg K.cookies (yJ K.cookies ⟨c.name,c.nonce,[],s,up⟩) now=(⟨c.name,c.nonce,[],s,up⟩,0):=by
  rw[zsS e.ck f g,if_neg (by show ¬up<now;omega)]
 have d:jK [] K.u.set=true:=by unfold jK;rw[a];simp
 unfold Kd.req;rw[zGa h (zA8 (by rw[j];decide)) m rfl rfl d];have b:K.u.set[([]:List ByteArray).length]?=some nx:=by rw[a];rfl
 unfold Kd.reqX;simp only[if_true,b]
theorem zBX(h:Fz c K)(b:Tz c K)(a:K.cookies=zB vH){o:T}(d:s.fit=true){done:List ByteArray}{up:Int}(e:inI up)(g:now<=up):
 zdG c (kJ c.ak c.nonce (zG jQ [o,yJ K.cookies ⟨c.name,c.nonce,done,s,up⟩])) now=[⟨o,yJ K.cookies ⟨c.name,c.nonce,done,s,up⟩,s⟩]:=by
 unfold zdG;rw[zyw,zba (n:=2) (by decide) rfl];have f:jg K.cookies (yJ K.cookies ⟨c.name,c.nonce,done,s,up⟩) now=(⟨c.name,c.nonce,done,s,up⟩,0):=by rw[zsS b.ck d e,if_neg (by show ¬up<now;omega)]
 show(if(0:Int)=0 then zfw o _ (jg (zB vH) _ now)else[])=_;rw[if_pos rfl,<-a,f];rfl
end
def z3:List AV:=[.i 0,.s ⟨#[]⟩,.lst 0 true []]
section
variable{c:Cl}{K:Kd}{nx:ByteArray}{rest:List ByteArray}{now:Int}{p q s:T}
theorem zux(a:Tz c K)(hp:p.bulk<=1000000)(b:q.bulk<=1000000):(c.says p q).lo:=by
 have:=zJE a (p:=p) (q:=q);unfold T.lo;omega
theorem zsD:zw.bulk=12:=by decide
theorem zFX(b:Tz c K)(e:isM nx)(d:sOk nx s)(f:inI now):(kJ c.ak c.nonce (zG jQ [jH K.u nx s,yJ K.cookies ⟨c.name,c.nonce,[],s,now⟩])).lo:=by
 have a:=zoj (done:=[]) (s:=s) (t0:=now) b (by unfold zaw;omega) d.bulk f;have:=zFW b e d a;unfold T.lo;omega
theorem zKm(e:Tz c K){base:T}(v:base.bulk<=100000){done:List ByteArray}(h:∀d∈done,isM d)(w:done.length<=3)(x:0<=K.n/\K.n<=900000)(j:inI now):
 (zam c.ak c.nonce base (zQ (K.n+1)) (zQ (K.n+1+1)) (tkt K.key c.name (zQ (K.n+1)) done now)).lo:=by
 have y:=zvb (l:=done) h;have z:=(zkF (n:=K.n+1) (by omega)).ti.b;have A:=(zkF (n:=K.n+1+1) (by omega)).ti.b;have o:=e.kb;have r:=e.n;have u:=e.m;have a:inI 3:=by unfold inI;omega
 have t1:=zee (k:=K.key) (t:=zG zf0 [yU c.name,zQ (K.n+1),zS (jp done),qG now]) (n:=3) a;have g:(qG now).bulk<=25:=by
  show(yU (zE now)).bulk<=_;rw[zf5];have:=zi6 j;omega
 rw[wh,yA,yA,yA,yA,jA,zf5,zfM]at t1;have B:zf0.size=6:=rfl;have t1':(tkt K.key c.name (zQ (K.n+1)) done now).bulk<=10000:=by
  unfold tkt;omega
 generalize tkt K.key c.name (zQ (K.n+1)) done now=t at *;have trep:(zcG (zQ (K.n+1+1)) base).bulk<=110000:=by
  unfold zcG kL qq;rw[ziY,zfM,yA,yA,jA,zab,zab,yA,yA,jA];have C:=(zdD (f:=zeh) (by show 13<=90;omega)).2;have j2:=(zdD (f:=zd2) (by show 8<=90;omega)).2;omega
 have t2:=zee (k:=zcG (zQ (K.n+1+1)) base) (t:=zG zeD [zQ (K.n+1),yU c.nonce,yC t]) (n:=3) a;rw[wh,yA,yA,yA,jA,zf5,ziY]at t2;have D:zeD.size=3:=rfl;have t3:=znT e (t:=zG zfl [zQ (K.n+1+1),yC t]);rw[wh,yA,yA,jA,ziY]at t3;have z3:zfl.size=6:=rfl;have E:zjv.size=6:=rfl;unfold T.lo zam zjV;rw[wh,yA,yA,yA,jA];omega
end
section
variable{us:List Us}{S:AS}{s ka kb:Nat}{La:Lop}{Lb:Loc}{K:Kd}{RA RB:List (List AV)}{lv:AV}{now:Int}{ls:List AV}{l:List Sn}
theorem dl0(hp:yu us (yk us) 0 S ka La K [])(m:yE us 0 S kb Lb K [])(t:∀z,yn ka La (yk us) z->¬yB kb Lb z):
 Dl us 0 (S.new (.rows 7 [stR (.ptr ka 0 0) (.ptr kb 0 0) (.lst 0 true []) now z3])) S.n ka La kb Lb K K [] [] (.lst 0 true []) now z3 []/\
  Chg S (S.new (.rows 7 [stR (.ptr ka 0 0) (.ptr kb 0 0) (.lst 0 true []) now z3])) (fun z=>yn ka La (yk us) z\/yB kb Lb z) (j5 ka La (yk us) kb Lb S.n (.lst 0 true [])):=by
 have hS:=hp.hS;have g:∀x,¬yO (.lst 0 true []) x:=by rintro x ⟨a,b,c,d,e⟩;cases e
 have h:∀x,x<S.n->(S.new (.rows 7 [stR (.ptr ka 0 0) (.ptr kb 0 0) (.lst 0 true []) now z3])).heap x=S.heap x:=fun x f=>if_neg (by omega);refine⟨⟨hp.keep rfl (Nat.le_succ _) fun x f _=>h x f,m.keep rfl (Nat.le_succ _) fun x f _=>h x f,⟨jX,.inl ⟨rfl,rfl⟩,hS,xay _,g _,rfl⟩,t,?_,?_,by intro r u;cases u⟩,rfl,Nat.le_succ _,fun x f o=>⟨h x f,?_⟩⟩
 ·rintro z j (e|e)
  ·have:=hp.own_lt j;omega
  ·exact g z e
 ·rintro z j (e|e)
  ·have:=m.own_lt j;omega
  ·exact g z e
 ·rintro(e|e|e|e)
  ·exact o (.inl e)
  ·exact o (.inr e)
  ·omega
  ·exact g x e
def vU(K:Kd)(nx:ByteArray)(now:Int):T:=yJ K.cookies ⟨naB,zN 0,[],K.offS nx,now+100⟩
theorem zsM(a:0<=K.n/\K.n<=900000){nx:ByteArray}:sOk nx (K.offS nx):=zJy a
theorem do1(h:Dl us 0 S s ka La kb Lb K K RA RB lv now ls l)(a:Kw K naB)(E:K.u.fails=0)(F:RA.length<=900)(w:RB.length<=900)(H:l.length<=100){nx:ByteArray}{rest:List ByteArray}(d:K.u.set=nx::rest)(j:0<=now/\now<=1000000):
 ∃S' La' Lb' lv' RB',call 166 [.ptr s 0 0,.agg (jW 0 0 0 0 7 z3)] S=some (.b true,S')/\Dl us 0 S' s ka La' kb Lb' (K.offK nx) (K.offK nx) RA RB' lv' now ((cq naB (zN 0)).says zw zw).cells (l++[⟨jH K.u nx (K.offS nx),vU K nx now,K.offS nx⟩])/\
  Chg S S' (j5 ka La (yk us) kb Lb s lv) (j5 ka La' (yk us) kb Lb' s lv')/\RB'.length<=RB.length+1:=by
 have ok:=a.okk (by show 1<=10;omega);have fz:=a.fz (n:=0) E (by decide);have tz:=a.tz (n:=0) (by show 1<=10;omega) (by omega);have J:=a.n;have x:isM nx:=a.set.im nx (by rw[d];simp);have B:=zHH (now:=now) fz d;have f:=@zsM K (by omega) nx;have m:inI (now+100):=by unfold inI;omega
 have y:(K.req ((cq naB (zN 0)).says zw zw) now).1.lo:=by rw[B];exact zFX tz x f m
 obtain⟨S',La',Lb',lv',RA',RB',e,D,G,C,g,r⟩:=zr1 h ok a.set.im F w H (who:=0) (n:=0) (kind:=0) (at_:=0) (back:=7) (tcs:=z3) (o:=zdM) (pd:=zw) (.inl rfl) (by omega) ⟨rfl,rfl⟩ (.inr ⟨rfl,rfl⟩) j (.inl ⟨rfl,rfl⟩) (t:=(cq naB (zN 0)).says zw zw) rfl (zux tz (by rw[zsD];omega) (by rw[zsD];omega)) (fun M v=>.inl (by
  rw[zom (by decide) zsC]at v;cases v;exact a.un)) y
 rw[B]at D r;have z:RA'=RA:=r;rw[z]at D;have A:zdG (cq naB (zN 0)) (kJ (cq naB (zN 0)).ak (cq naB (zN 0)).nonce (zG jQ [jH K.u nx (K.offS nx),yJ K.cookies ⟨(cq naB (zN 0)).name,(cq naB (zN 0)).nonce,[],K.offS nx,now+100⟩])) now=[⟨jH K.u nx (K.offS nx),vU K nx now,K.offS nx⟩]:=zBX fz tz a.cookies f.fit m (by omega);have I:Dl us 0 S' s ka La' kb Lb' (K.offK nx) (K.offK nx) RA RB' lv' now ((cq naB (zN 0)).says zw zw).cells (l++[⟨jH K.u nx (K.offS nx),vU K nx now,K.offS nx⟩]):=by
  rw[<-A];exact D
 exact⟨S',La',Lb',lv',RB',e,I,G,g⟩
end
theorem zlU{a:List ByteArray}{room:Int}(h:kN a):Kw (kdU a room) naB:=⟨rfl,rfl,rfl,rfl,rfl,h,by show 0<=(0:Int)/\(0:Int)<=800;omega,Nat.zero_le _,by show 0<=(0:Int)/\(0:Int)<=1000;omega,by show 0<=(0:Int)/\(0:Int)<=1000;omega⟩
structure T.good(t:T):Prop where
 fits:t.fits
 kids:t.kids.length*48<=140737488355328
 name:t.name.size<=281474976710656
 names:∀k∈t.kids,k.name.size<=281474976710656
section
variable{S:AS}
theorem same_self{l:List T}:qE l l=true:=zfS.2 rfl
end
section
variable{S:AS}
end
theorem zBg{n:Int}(h: -100000000000000000<n/\n<100000000000000000):(zE n).size<=18:=by
 unfold zE Lib.itoa;split
 ·have:=zcy 16 n.natAbs (by omega);have a:(⟨(45::Lib.decDigits n.natAbs).toArray⟩:ByteArray).size=(yj n.natAbs).size+1:=by
   unfold yj;show(List.toArray _).size=(List.toArray _).size+1;simp
  omega
 ·have:=zcy 16 n.toNat (by omega);unfold yj at this;omega
section
variable{S:AS}
end
def cA:Cl:=cq naB (zN 0)
def chT(t0:Int):T:=za6 cA.ak cA.key cA.body t0
def zcY(K:Kd)(now:Int):T:=zam cA.ak cA.nonce cA.key (zQ (K.n+1)) (zQ (K.n+1+1)) (tkt K.key cA.name (zQ (K.n+1)) [zr] now)
def zet(K:Kd)(now:Int)(a:Int×List (ByteArray×Int)):T×Kd×Isd:=
 if a.1=0 then(zcY K now,Kd.tktK {K with cache:=a.2},some (naB,zN 0,[zr],zQ (K.n+1)))else(jx a.1,{K with cache:=a.2},none)
section
variable{K:Kd}{t0 now tm:Int}
theorem zzC(h:Tz cA K)(a:inI t0):Ti (chT t0) 40 200000:=by
 have:=zGE (c:=cA) (K:=K) (nx:=zr) (s:=zw) (x:=zB xxB) (t0:=t0) h (.inl rfl) (fun e=>absurd rfl e) zKE a;rw[zte]at this;exact this
theorem ztv(h:Kw K naB)(t:K.u.fails=0)(b:K.u.set=[zr])(x: -10000000<=t0/\t0<=10000000)(y: -10000000<=now/\now<=10000000)(j:now<=tm+100)(r: -10000000<=tm/\tm<=10000000):
 K.req (cA.says (chT t0) (vU K zr tm)) now=if(t0-now).natAbs > 5 then(jx 5,K,none)else zet K now (Rf.seenR K.room K.cache (chT t0).txt (now+100+1) now):=by
 have fz:Fz cA K:=h.fz (n:=0) t (by decide);have tz:Tz cA K:=h.tz (n:=0) (by show 1<=10;omega) (by omega);have v:K.offS zr=zw:=if_pos rfl;unfold vU;rw[v];have e:=zHG (p:=chT t0) fz tz zsE b (up:=tm+100) (by unfold inI;omega) j;rw[show(⟨naB,zN 0,[],zw,tm+100⟩:Ck)=⟨cA.name,cA.nonce,[],zw,tm+100⟩from rfl,e];have m:yR (chT t0)=false:=zA9 (by decide);rw[zmy m];have f:cA.key=K.u.key:=h.uk.symm;have d:yH ⟨cA.ak,cA.body,⟨cA.name,cA.nonce,[],zw,tm+100⟩,K.u,now⟩ (chT t0) zr=(K.u.key,[],if(t0-now).natAbs > 5 then 5 else 0):=by
  unfold yH;rw[if_neg zeu,if_neg zev];show(K.u.key,[],wU cA.ak K.u.key cA.body (chT t0) now)=_;unfold chT;rw[zzI (by unfold inI;omega) (zBg (by omega)),if_pos ⟨rfl,f⟩,if_pos rfl]
 have o:K.tk ⟨cA.ak,cA.body,⟨cA.name,cA.nonce,[],zw,tm+100⟩,K.u,now⟩ (chT t0) zr now=if(t0-now).natAbs > 5 then(5,K)else K.tkS zr (K.u.key,[],0) (Rf.seenR K.room K.cache (chT t0).txt (now+100+1) now):=by
  unfold Kd.tk;rw[if_pos ⟨zno,.inl rfl⟩,d];unfold Kd.tkC;by_cases a:(t0-now).natAbs > 5
  ·rw[if_pos a,if_pos a];simp
  ·rw[if_neg a,if_neg a];simp
 rw[o];by_cases a:(t0-now).natAbs > 5
 ·rw[if_pos a,if_pos a];rw[if_neg (by show ¬(5:Int)=0;decide)]
 ·rw[if_neg a,if_neg a,d];generalize Rf.seenR K.room K.cache (chT t0).txt (now+100+1) now=w;unfold Kd.tkS zet;by_cases g:w.1=0
  ·rw[if_pos g,if_neg zeu,if_pos g];rw[if_pos rfl,zHE (by show([]++[zr]).length=K.u.set.length;rw[b];rfl)];unfold Kd.tktT;show(zam cA.ak cA.nonce K.u.key _ _ _,_,_)=_;rw[<-f];rfl
  ·rw[if_neg g,if_neg g];simp only;rw[if_neg g]
theorem zzB:zd0 (zcY K now)=0:=by
 unfold zd0 zcY zam;rw[zHB (by decide)];rfl
theorem zHA{n:Int}(h:1<=n/\n<=1000):zd0 (jx n)=n:=by
 unfold zd0;rw[zto h];rfl
theorem zzA(a:Kw K naB)(d: -10000000<=now/\now<=10000000):(zcY K now).lo:=by
 have tz:Tz cA K:=a.tz (n:=0) (by show 1<=10;omega) (by omega);have:=a.n;exact zKm tz (by have:=tz.k.b;omega) (by simp[isM]) (by simp) (by omega) (by unfold inI;omega)
theorem zuw(a:Kw K naB)(g: -10000000<=t0/\t0<=10000000)(d: -10000000<=tm/\tm<=10000000):(cA.says (chT t0) (vU K zr tm)).lo:=by
 have tz:Tz cA K:=a.tz (n:=0) (by show 1<=10;omega) (by omega);have h:=(zzC (t0:=t0) tz (by unfold inI;omega)).b;have e:sOk zr (K.offS zr):=zsM (by have:=a.n;omega);have f:=zoj (done:=[]) (s:=K.offS zr) (t0:=tm+100) tz (by unfold zaw;omega) e.bulk (by unfold inI;omega);exact zux tz (by omega) (by
  have:(vU K zr tm).bulk<=20000:=f;omega)
theorem zok{p q:T}:ku (cA.says p q)=some naB:=zom (by decide) zsC
end
theorem ztu{K:Kd}{n:ByteArray}{now:Int}:K.req (zB n) now=(jx 2,K,none):=by
 have a:qY (zB n)=none:=by
  unfold qY;rw[znu (by decide) (by show(2:Int)≠3;decide)];rfl
 have b:K.opens (zB n) now=(qS,zB n,2):=by
  unfold Kd.opens;rw[a]
 unfold Kd.req;rw[b];rfl
theorem zol{n:ByteArray}:ku (zB n)=none:=by
 have a:qY (zB n)=none:=by
  unfold qY;rw[znu (by decide) (by show(2:Int)≠3;decide)];rfl
 unfold ku;rw[a];rfl
theorem zuD{room t now:Int}{id:ByteArray}(a:now<t)(b:0<room):Rf.seenR room [] id t now=(0,[(id,t)]):=by
 unfold Rf.seenR;rw[if_neg (by omega)];show(if room<=((0:Nat):Int)then _ else _)=_;rw[if_neg (by omega)];rfl
theorem zBf{S S':AS}{o:Nat->Prop}{a:List (List AV)}{c n:ByteArray}{d:List ByteArray}{s:T}(h:wq S S' o [] a (some (c,n,d,s)))(f:d.length<=1000):zj2 S' a [(c,n,d,s)]:=by
 obtain⟨id,b,g,t,m,_⟩:=h;refine⟨by rw[b];rfl,fun j q e=>?_,fun q r=>by rw[xaA.1 r];exact f⟩;cases j with
 |zero=>cases e;exact⟨id,by rw[b];rfl,g,m⟩
 |succ j=>simp at e
section
variable{S:AS}
theorem zza{pa pb:AV}(d:pa.cells=[pa])(e:pb.cells=[pb])(a:pa.isCell=true)(b:pb.isCell=true):pev (.build [.sc (.pointer none),.sc (.pointer none),.lst 0 true [],.i (0),.i (0),.s ⟨#[]⟩,.lst 0 true []] [(0,1),(1,1)]) [pa,pb]=some (.agg (stR pa pb (.lst 0 true []) 0 z3)):=by
 simp[d,e,a,b];rfl
theorem zoc:pev (.build [.i (0),.i (0),.i (0),.i (0),.i (0),.i (0),.i (0),.i (0),.s ⟨#[]⟩,.lst 0 true [],.b false] [(4,1)]) [.i 7]=some (.agg (jW 0 0 0 0 7 z3)):=by simp;rfl
theorem zod{a:Int}:pev (.build [.i (0),.i (0),.i (0),.i (0),.i (0),.i (0),.i (0),.i (0),.s ⟨#[]⟩,.lst 0 true [],.b false] [(2,1),(3,1)]) [.i 1,.sc (.int .i64 a)]=some (.agg (jW 0 0 1 a 0 z3)):=by simp;rfl
theorem zsf:(AV.lst 1 true [[.s ⟨#[99,104,97,108,108,101,110,103,101]⟩]]).nrm=zk [zr]:=by simp;rfl
theorem zB0:(AV.lst 1 true [[.s ⟨#[111,116,112]⟩]]).nrm=zk [yg]:=by simp;rfl
theorem zIG:call 163 [] S=some (.b true,S):=by
 rw[zi zvT rfl rfl rfl];obtain⟨z,ka,La,kb,Lb,d1,p1,q1,hd,g1⟩:=zr0 (S:={S with ro:=S.n}) (room:=8) ziX zAR zsf rfl zB0 rfl (by omega) (xad _);obtain⟨D2,g2⟩:=dl0 (now:=0) p1 q1 hd;have bS:=@zza (.ptr ka 0 0) (.ptr kb 0 0) rfl rfl rfl rfl;have J:∀d rg,ze (.box .heap) d rg z [.agg (stR (.ptr ka 0 0) (.ptr kb 0 0) (.lst 0 true []) 0 z3)]=some (.ptr z.n 0 0,none,z.new (.rows 7 [stR (.ptr ka 0 0) (.ptr kb 0 0) (.lst 0 true []) 0 z3])):=fun d rg=>rfl;have m:=@zlU [zr] 8 ziX;have v:(kdU [zr] 8).u.set=[zr]:=rfl;have Z:(kdU [zr] 8).u.fails=0:=rfl;have M:(kdU [zr] 8).room=8:=rfl;have N:(kdU [zr] 8).cache=[]:=rfl;have A:(kdU [zr] 8).offK zr=kdU [zr] 8:=if_pos rfl;generalize kdU [zr] 8=K at *;have ok:=m.okk (by show 1<=10;omega);generalize O:z.new (.rows 7 [stR (.ptr ka 0 0) (.ptr kb 0 0) (.lst 0 true []) 0 z3])=S2 at *;generalize z.n=s at *;obtain⟨S3,aa,P,f,U,_,B,_⟩:=D2.ask ok m.set.im (by show 0<=900;omega) (t:=zB xxB) (tm:=0) znA (by omega) (fun cl h=>by rw[zol]at h;cases h);rw[ztu]at f U B;have C:P=[]:=List.eq_nil_of_length_eq_zero (by rw[B];rfl);subst C;obtain⟨S4,ab,V,g,q4,g4,w⟩:=zsx U.q ok (by show 0<=1000;omega) (t:=zB xxB) (now:=0) znA (by omega) (fun cl h=>by rw[zol]at h;cases h);rw[ztu]at g q4 w;have D:V=[]:=w;subst D;obtain⟨D4,_⟩:=U.doc q4 g4;obtain⟨S5,ac,ad,ae,W,E,D5,_,X⟩:=do1 D4 m Z (by show 0<=900;omega) (by show 0<=900;omega) (by show 0<=100;omega) v (by omega);rw[A]at D5;have a:=ztv (K:=K) (t0:=0) (now:=0) (tm:=0) m Z v (by omega) (by omega) (by omega) (by omega);rw[if_neg (by decide),N,M,zuD (by omega) (by omega)]at a;have a:K.req (cA.says (chT 0) (vU K zr 0)) 0=zet K 0 (0,[((chT 0).txt,0+100+1)]):=a;unfold zet at a;rw[if_pos rfl]at a;obtain⟨S6,af,ag,ah,ai,aj,y,D6,_,ak,_,x⟩:=zr1 D5 ok m.set.im (by show 0<=900;omega) (by show W.length<=900;simp at X;omega) (by simp) (who:=0) (n:=0) (kind:=1) (at_:=8) (back:=0) (tcs:=z3) (o:=⟨jH K.u zr (K.offS zr),vU K zr 0,K.offS zr⟩) (pd:=chT 0) (.inl rfl) (by omega) ⟨rfl,rfl⟩ (.inl ⟨rfl,by simp⟩) (by omega)
  (.inr (.inl ⟨rfl,rfl⟩)) (t:=cA.says (chT 0) (vU K zr 0)) rfl (zuw m (by omega) (by omega)) (fun cl h=>.inl (by rw[zok]at h;cases h;exact m.un)) (by rw[a];exact zzA m (by omega))
 rw[a]at x;have hQ:=zBf x (by show 1<=1000;omega);have e:=zmL D6.p hQ (by rw[hQ.len];show 1<=1000;omega);have F:=fun S s=>@zfQ S s;have G:=fun S=>@s97 S (jx 2);rw[zto (by omega)]at G;have b1:=zoc;have b2:=@zod 8;unfold xxB at f g;have H:∀d:T,Iq.row (naB,zN 0,[zr],d) (zk [zr])=.sc (.string naB)::.sc (.string (zN 0))::zk [zr]::d.cells:=fun d=>rfl;simp only[xao,List.map_nil]at e;rw[H]at e;have I:∀r:List AV,lstN 6 [r]=.lst 6 false [r]:=fun r=>rfl;rw[I]at e;have j:pev .lenL [zk [zr]]=some (.i 1):=by simp
 have Y:∀r:List AV,pev (.iaddr 6) [.lst 6 false [r],.i 0]=some (.iptr r):=fun r=>by simp[pev]
 unfold naB zr at e j;generalize zk [_]=LC at *;generalize stR (.ptr ka 0 0) (.ptr kb 0 0) (.lst 0 true []) 0 z3=ST at *;simp[-jl,zgZ,zpr,d1,bS,J,O,F,f,g,G,yM,b1,b2,E,y,e,j,zj,Y]
end
theorem zsb{z:Nat}{R:List (List AV)}:pev .lenL [lstN z R]=some (.sc (.int .i64 (R.length:Nat))):=by
 cases R with
 |nil=>rfl
 |cons a l=>rfl
section
variable{S:AS}
theorem zyX{x y:AV}{a j:List ByteArray}{room now:Int}{nx:ByteArray}{rest:List ByteArray}(B:kN a)(D:kN j)(E:x.nrm=zk a)(m:x.isReg=false)(F:y.nrm=zk j)(o:y.isReg=false)(r:0<=room/\room<=64)(t:S.ro<=S.n)(e:a=nx::rest)(f:0<=now/\now<=1000000):
 ∃g C h s ka La kb Lb lv RB,call 164 [x,y,.sc (.int .i64 room)] S=some (.tup [.ptr ka 0 0,.ptr kb 0 0,.b true],g)/\
  (∀d rg,ze (.box .heap) d rg g [.agg (stR (.ptr ka 0 0) (.ptr kb 0 0) (.lst 0 true []) now z3)]=some (.ptr s 0 0,none,C))/\
  call 166 [.ptr s 0 0,.agg (jW 0 0 0 0 7 z3)] C=some (.b true,h)/\
  Dl (qQ a j) 0 h s ka La kb Lb ((kdU a room).offK nx) ((kdU a room).offK nx) [] RB lv now (cA.says zw zw).cells [⟨jH (kdU a room).u nx ((kdU a room).offS nx),vU (kdU a room) nx now,(kdU a room).offS nx⟩]/\RB.length<=1/\Chg S h (fun _=>False) (j5 ka La (yk (qQ a j)) kb Lb s lv):=by
 obtain⟨g,ka,La,kb,Lb,G,H,I,J,M⟩:=zr0 (S:=S) (room:=room) B D E m F o r t;obtain⟨N,O⟩:=dl0 (now:=now) H I J;obtain⟨h,v,w,z,A,P,U,V,W⟩:=do1 N (zlU B) rfl (by show 0<=900;omega) (by show 0<=900;omega) (by show 0<=100;omega) e f;exact⟨g,_,h,g.n,ka,v,kb,w,z,A,G,fun d rg=>rfl,P,U,W,M.trans (O.trans V)⟩
theorem zzb{pa pb:AV}(d:pa.cells=[pa])(e:pb.cells=[pb])(a:pa.isCell=true)(b:pb.isCell=true):pev (.build [.sc (.pointer none),.sc (.pointer none),.lst 0 true [],.i (0),.i (0),.s ⟨#[]⟩,.lst 0 true []] [(0,1),(1,1),(3,1)]) [pa,pb,.i 50]=some (.agg (stR pa pb (.lst 0 true []) 50 z3)):=by
 simp[d,e,a,b];rfl
theorem zAY{u v:Us}:pev (.iaddr 15) [lstN 15 [u.row,v.row],.i 0]=some (.iptr u.row):=by
 show pev (.iaddr 15) [.lst 15 false [u.row,v.row],.i 0]=_;simp[pev]
theorem zBT{at_ n:Int}(hS:S.ro<=S.n):Tru (call 42 [.sc (.int .i64 at_),.sc (.int .i64 n)] S):=by
 rw[z8 a42 (by simp) rfl];have r:=fun S=>@zIG S;have w:=fun S=>@zIH S n;have a:=fun S t=>@zII S t;have F:=@zs7 at_;have af:0<=at_%16/\at_%16<16:=⟨Int.emod_nonneg _ (by omega),Int.emod_lt_of_pos _ (by omega)⟩;obtain⟨S1,S2,Z,s,ka,La,kb,Lb,lv,RB,d1,G,x,D,hB,-⟩:=zyX (S:=S) (y:=zk (zah (n%8).toNat)) (room:=16) (now:=50) ziX (zlL (j:=(n%8).toNat)) zsf rfl (by simp) (by simp) (by omega) hS rfl (by omega);have bS:=@zzb (.ptr ka 0 0) (.ptr kb 0 0) rfl rfl rfl rfl;have M:=@zlU [zr] 16 ziX;have N:(kdU [zr] 16).u.set=[zr]:=rfl;have hf:(kdU [zr] 16).u.fails=0:=rfl;have aa:(kdU [zr] 16).room=16:=rfl;have ab:(kdU [zr] 16).cache=[]:=rfl;have O:(kdU [zr] 16).offK zr=kdU [zr] 16:=if_pos rfl;rw[O]at D;generalize kdU [zr] 16=K at *;have ok:=M.okk (by show 1<=10;omega);have C:=ztv (K:=K) (t0:=50+at_%16-8) (now:=50) (tm:=50) M hf N (by omega) (by omega) (by omega) (by omega);rw[ab,aa,zuD (by omega) (by omega)]at C;have g:=zr2 (S:=Z) (o:=⟨jH K.u zr (K.offS zr),vU K zr 50,K.offS zr⟩) (pd:=chT (50+at_%16-8)) (who:=0) (n:=0) (kind:=1) (at_:=at_) (back:=0) (tcs:=z3) D.st.hh D.st.gv (by show 1<=1000;omega) (.inl rfl) (by omega) ⟨rfl,rfl⟩ (.inl ⟨rfl,rfl⟩) (by omega) (.inr (.inl ⟨rfl,rfl⟩))
 replace g:call 167 [.ptr s 0 0,.agg (jW 0 0 1 at_ 0 z3)] Z=some (.agg (cA.says (chT (50+at_%16-8)) (vU K zr 50)).cells,Z):=g
 obtain⟨S4,ag,P,d,U,_,B,_⟩:=D.ask ok M.set.im (by show 0<=900;omega) (t:=cA.says (chT (50+at_%16-8)) (vU K zr 50)) (tm:=50) (zuw M (by omega) (by omega)) (by omega) (fun cl h=>.inl (by rw[zok]at h;cases h;exact M.un));rw[C]at d U B;have b1:=zoc;have b2:=@zod at_;have w2:IntKind.i64.wrap (at_%16-8)=at_%16-8:=w64 (by omega);have H:∀u:Us,(qQ [zr] (zah (n%8).toNat)).set 0 u=[u,usr nbB (zah (n%8).toNat)]:=fun u=>rfl;have b:=zIw U.p;rw[H]at b;simp only[xao,List.map_nil]at b;have ac:=@zsb 15;have ae:∀(e:Int) (u:Us) (is V:Bool),u.fails=0->(e=0)=(V=true)->(V=false->e=5)->True:=fun _ _ _ _ _ _ _=>trivial;generalize stR (.ptr ka 0 0) (.ptr kb 0 0) (.lst 0 true []) 50 z3=ST at *;generalize jW 0 0 1 at_ 0 z3=A1 at *;generalize jW 0 0 0 0 7 z3=A2 at *;obtain⟨Q,hQ⟩:=U.io.q;have ad:=hQ.len;have f:=@zsb 6 (Q.map fun q=>Iq.row q (zk q.2.2.1));rw[xaH,<-ad,B]at f;have I:∀u:Us,pev (.faddr 14) [.iptr u.row]=some (.iptr [.sc (.int .i64 u.fails)]):=fun u=>rfl;have z:∀u v:Us,pev .lenL [lstN 15 [u.row,v.row]]=some (.i 2):=fun u v=>rfl;have A:=@zAY;have E:∀l,zet K 50 (0,l)=(zcY K 50,Kd.tktK {K with cache:=l},some (naB,zN 0,[zr],zQ (K.n+1))):=fun l=>if_pos rfl;by_cases Y:(50+at_%16-8-50).natAbs > 5
 ·have J:P.length<=1000:=by rw[B,if_pos Y];show 0+0<=1000;omega
  have m:=zmL U.p hQ J;simp only[if_pos Y]at d f b;generalize lstN 6 _=LI at *
  replace a:=fun S=>a S (jx 5)
  rw[zHA (by omega)]at a;have W:K.u.fails=0:=hf;generalize usr nbB _=ub at *;generalize K.u=ua at *;by_cases h6:at_%16<3
  ·have X:(-5<=at_%16-8)=False:=eq_false (by omega);simp[-jl,f42,ziv,r,d1,w,bS,G,x,b1,b2,g,d,a,b,m,f,zj,F,w2,X,z,A,I,W]
  ·have X:(-5<=at_%16-8)=True:=eq_true (by omega);have c2:(at_%16-8<=5)=False:=eq_false (by omega);simp[-jl,f42,ziv,r,d1,w,bS,G,x,b1,b2,g,d,a,b,m,f,zj,F,w2,X,c2,z,A,I,W]
 ·have J:P.length<=1000:=by rw[B,if_neg Y,E];show 0+1<=1000;omega
  have m:=zmL U.p hQ J;simp only[if_neg Y,E]at d f b;generalize lstN 6 _=LI at *
  replace a:=fun S=>a S (zcY K 50)
  rw[zzB]at a;have X:(-5<=at_%16-8)=True:=eq_true (by omega);have c2:(at_%16-8<=5)=True:=eq_true (by omega);simp[-jl,f42,ziv,r,d1,w,bS,G,x,b1,b2,g,d,a,b,m,f,zj,F,w2,X,c2,z,A,I];rfl
end
end Abs
