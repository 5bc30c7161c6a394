/- The document's KDC in memory: what it opens. -/
import Derived.Test.YtdiebjbepfjjfaaGreatDoorG5
set_option maxHeartbeats 16000000
set_option maxRecDepth 100000
set_option linter.unusedVariables false
set_option linter.unusedSimpArgs false
set_option linter.unusedSectionVars false
namespace Abs
open Go
structure Kd where
 key:T
 cookies:T
 u:Us
 room:Int
 cache:List (ByteArray×Int)
 n:Int
def Kd.row(K:Kd)(kb wid:Nat)(iv:AV):List AV:=[.sc (.int .i64 K.key.kind),.sc (.string K.key.name),zh K.key.kids,.sc (.int .i64 K.cookies.kind),.sc (.string K.cookies.name),zh K.cookies.kids,
 .ptr kb 0 0,.sc (.int .i64 K.room),.ptr wid 0 0,.sc (.int .i64 K.n),iv]
structure Tlk where
 ak:T
 body:T
 c:Ck
 u:Us
 now:Int
def Tlk.cells(x:Tlk)(dv:AV):List AV:=[.sc (.int .i64 x.ak.kind),.sc (.string x.ak.name),zh x.ak.kids,.sc (.int .i64 x.body.kind),.sc (.string x.body.name),zh x.body.kids,
 .sc (.string x.c.client),.sc (.string x.c.nonce),dv,.sc (.int .i64 x.c.secret.kind),.sc (.string x.c.secret.name),zh x.c.secret.kids,.sc (.int .i64 x.c.upto),
 .sc (.string x.u.name),.sc (.int .i64 x.u.key.kind),.sc (.string x.u.key.name),zh x.u.key.kids,zk x.u.set,.sc (.int .i64 x.u.seed.kind),.sc (.string x.u.seed.name),zh x.u.seed.kids,
 .sc (.int .i64 x.u.tok.counter),.sc (.int .i64 x.u.tok.look),.sc (.int .i64 x.u.tok.sync),.sc (.int .i64 x.u.tok.pending),.sc (.int .i64 x.u.tok.fails),.sc (.int .i64 x.u.tok.limit),.sc (.int .i64 x.u.fails),.sc (.int .i64 x.now)]
def qS:Tlk:=⟨tZ,tZ,⟨⟨#[]⟩,⟨#[]⟩,[],tZ,0⟩,zU,0⟩
section
variable{S:AS}{x:Tlk}
theorem Tlk.frz{b d:Nat}:zI (S.frzTo b d) (x.cells (zk x.c.done))=some (x.cells (zk x.c.done)):=by unfold Tlk.cells;simp
theorem Tlk.pure:jR (x.cells (zk x.c.done))=true:=by unfold Tlk.cells;simp
theorem Tlk.frz0{b d:Nat}(h:x.c.done=[]):zI (S.frzTo b d) (x.cells (.lst 0 true []))=some (x.cells (zk x.c.done)):=by unfold Tlk.cells;rw[h];simp;rfl
end
def Kd.opF(K:Kd)(t p:T)(x:Tlk):Tlk×T×Int:=if 5<=K.u.fails then(qS,t,7)else(x,p,0)
def Kd.opC(K:Kd)(t p:T)(x:Tlk)(o:Ck×Int):Tlk×T×Int:=
 if o.2=0 then(if o.1.client=x.c.client/\o.1.nonce=x.c.nonce/\jK o.1.done K.u.set=true then K.opF t p {x with c:=o.1} else(qS,t,11))else(qS,t,o.2)
def Kd.opR(K:Kd)(t ak body:T)(client nonce:ByteArray)(now:Int)(r:T×T×Int):Tlk×T×Int:=
 if r.2.2=0 then(if K.u.name=client then
  (if yR r.2.1=true then K.opF t r.1 ⟨ak,body,⟨client,nonce,[],zw,0⟩,K.u,now⟩else K.opC t r.1 ⟨ak,body,⟨client,nonce,[],zw,0⟩,K.u,now⟩ (jg K.cookies r.2.1 now))
  else(qS,t,3))else(qS,t,r.2.2)
def Kd.opA(K:Kd)(t body sealed:T)(client nonce:ByteArray)(now:Int)(a:T×Int):Tlk×T×Int:=
 if a.2=0 then K.opR t a.1 body client nonce now (vP a.1 body sealed)else(qS,t,a.2)
def Kd.opB(K:Kd)(t body armor sealed:T)(now:Int):Option (ByteArray×ByteArray)->Tlk×T×Int
 |none=>(qS,t,2)
 |some (client,nonce)=>K.opA t body sealed client nonce now (qI K.key armor)
def Kd.opens(K:Kd)(t:T)(now:Int):Tlk×T×Int:=match qY t with
 |none=>(qS,t,2)
 |some (body,armor,sealed)=>K.opB t body armor sealed now (jL body)
structure AtK(S:AS)(k kb ub wid:Nat)(iv:AV)(K:Kd):Prop where
 hh:S.heap k=some (.rows 11 [K.row kb wid iv])
 b:AtB S kb ub K.u
section
variable{S:AS}{k kb ub wid:Nat}{iv:AV}{K:Kd}
end
def zd5(r:Tlk×T×Int):AV:=.tup [.agg (r.1.cells (zk r.1.c.done)),.agg r.2.1.cells,.sc (.int .i64 r.2.2)]
theorem zkd{t a b c:T}(h:qY t=some (a,b,c)):a∈t.kids/\b∈t.kids/\c∈t.kids:=by
 unfold qY at h;cases d:zX qX 3 t with
 |none=>rw[d]at h;cases h
 |some l=>
  obtain⟨f,e⟩:=jO (n:=3) d;obtain⟨x,y,z,rfl⟩:=zfx f;rw[d]at h;cases h;exact⟨e _ (by simp),e _ (by simp),e _ (by simp)⟩
theorem zmz{k b t:T}(h:t.lo):(vP k b t).2.1.lo/\(vP k b t).1.lo:=by
 have d:=zuA (k:=k) (u:=51) (tag:=qx) (n:=3) h;unfold vP;rcases za4 (k:=k) (t:=t) (u:=51) (tag:=qx) (n:=3)with⟨l,f,a⟩|⟨e,g,f⟩
 ·obtain⟨x,p,c,rfl⟩:=zfx a;rw[f]at d ⊢;unfold wL;simp only;split
  ·exact⟨d c (by simp),d p (by simp)⟩
  ·exact⟨qr,qr⟩
 ·rw[f];exact⟨qr,qr⟩
section
variable{S:AS}{k kb ub wid:Nat}{iv:AV}{K:Kd}
theorem zar{client nonce:ByteArray}:pev (.build [.s ⟨#[]⟩,.s ⟨#[]⟩,.lst 0 true [],.i (0),.s ⟨#[]⟩,.lst 0 true [],.i (0)] [(0,1),(1,1),(3,3)]) [.sc (.string client),.sc (.string nonce),.agg zw.cells]=some (.agg (ckX ⟨client,nonce,[],zw,0⟩ (.lst 0 true []))):=by
 rw[zq];simp;rfl
theorem zbg:pev (.build [.i (0),.s ⟨#[]⟩,.lst 0 true [],.i (0),.s ⟨#[]⟩,.lst 0 true [],.s ⟨#[]⟩,.s ⟨#[]⟩,.lst 0 true [],.i (0),.s ⟨#[]⟩,.lst 0 true [],.i (0),.s ⟨#[]⟩,.i (0),.s ⟨#[]⟩,.lst 0 true [],.lst 0 true [],.i (0),.s ⟨#[]⟩,.lst 0 true [],.i (0),.i (0),.i (0),.i (0),.i (0),.i (0),.i (0),.i (0)] []) []=some (.agg [.i (0),.s ⟨#[]⟩,.lst 0 true [],.i (0),.s ⟨#[]⟩,.lst 0 true [],.s ⟨#[]⟩,.s ⟨#[]⟩,.lst 0 true [],.i (0),.s ⟨#[]⟩,.lst 0 true [],.i (0),.s ⟨#[]⟩,.i (0),.s ⟨#[]⟩,.lst 0 true [],.lst 0 true [],.i (0),.s ⟨#[]⟩,.lst 0 true [],.i (0),.i (0),.i (0),.i (0),.i (0),.i (0),.i (0),.i (0)]):=by simp
theorem zy8{ak body:T}{u:Us}{c:Ck}{dv:AV}{now:Int}(a:dv.isCell=true):pev (.build [.i (0),.s ⟨#[]⟩,.lst 0 true [],.i (0),.s ⟨#[]⟩,.lst 0 true [],.s ⟨#[]⟩,.s ⟨#[]⟩,.lst 0 true [],.i (0),.s ⟨#[]⟩,.lst 0 true [],.i (0),.s ⟨#[]⟩,.i (0),.s ⟨#[]⟩,.lst 0 true [],.lst 0 true [],.i (0),.s ⟨#[]⟩,.lst 0 true [],.i (0),.i (0),.i (0),.i (0),.i (0),.i (0),.i (0),.i (0)] [(0,3),(3,3),(13,15),(28,1),(6,7)]) [.agg ak.cells,.agg body.cells,.agg u.row,.sc (.int .i64 now),.agg (ckX c dv)]=some (.agg ((Tlk.mk ak body c u now).cells dv)):=by
 rw[zq ak,zq body];unfold Us.row ckX;simp[a];rfl
end
section
variable{x:Tlk}{dv:AV}
@[simp] theorem Tlk.len:(x.cells dv).length=29:=rfl
theorem Tlk.cell(h:dv.isCell=true):(x.cells dv).all AV.isCell=true:=by unfold Tlk.cells;simp[h]
@[simp] theorem Tlk.t_all:List.take 29 (x.cells dv)=x.cells dv:=rfl
@[simp] theorem Tlk.t_ak:List.take 3 (x.cells dv)=x.ak.cells:=by rw[zq];rfl
@[simp] theorem Tlk.t_body:List.take 3 (List.drop 3 (x.cells dv))=x.body.cells:=by rw[zq];rfl
@[simp] theorem Tlk.t_c:List.take 7 (List.drop 6 (x.cells dv))=ckX x.c dv:=rfl
@[simp] theorem Tlk.t_client:List.take 1 (List.drop 6 (x.cells dv))=[.sc (.string x.c.client)]:=rfl
@[simp] theorem Tlk.t_nonce:List.take 1 (List.drop 7 (x.cells dv))=[.sc (.string x.c.nonce)]:=rfl
@[simp] theorem Tlk.t_done:List.take 1 (List.drop 8 (x.cells dv))=[dv]:=rfl
@[simp] theorem Tlk.t_secret:List.take 3 (List.drop 9 (x.cells dv))=x.c.secret.cells:=by rw[zq];rfl
@[simp] theorem Tlk.t_key:List.take 3 (List.drop 14 (x.cells dv))=x.u.key.cells:=by rw[zq];rfl
@[simp] theorem Tlk.t_set:List.take 1 (List.drop 17 (x.cells dv))=[zk x.u.set]:=rfl
@[simp] theorem Tlk.t_seed:List.take 3 (List.drop 18 (x.cells dv))=x.u.seed.cells:=by rw[zq];rfl
@[simp] theorem Tlk.t_tok:List.take 6 (List.drop 21 (x.cells dv))=x.u.tok.cells:=rfl
@[simp] theorem Tlk.t_now:List.take 1 (List.drop 28 (x.cells dv))=[.sc (.int .i64 x.now)]:=rfl
@[simp] theorem Tlk.t_now':List.drop 28 (x.cells dv)=[.sc (.int .i64 x.now)]:=rfl
@[simp] theorem Tlk.s_secret{s:T}:List.take 9 (x.cells dv)++(s.cells++List.drop 12 (x.cells dv))=({x with c:={x.c with secret:=s}}:Tlk).cells dv:=by rw[zq];rfl
@[simp] theorem Tlk.s_upto{n:Int}:List.take 12 (x.cells dv)++.sc (.int .i64 n)::List.drop 13 (x.cells dv)=({x with c:={x.c with upto:=n}}:Tlk).cells dv:=rfl
end
structure Loc where
 kb:Nat
 ub:Nat
 wid:Nat
 ids:List Nat
 cv:AV
 iv:AV
structure zvh(S:AS)(k:Nat)(L:Loc)(K:Kd)(R:List (List AV)):Prop where
 hh:S.heap k=some (.rows 11 [K.row L.kb L.wid L.iv])
 b:IsB S L.kb L.ub K.u
 c:Rf.IsRef S L.wid K.room K.cache L.ids L.cv
 gv:GV S 6 L.iv R
 ro:S.ro<=k
 lt:k<S.n
 d1:∀x,qN L.kb L.ub x->x≠k/\¬Rf.ownR L.wid L.ids x/\¬yO L.iv x
 d2:∀x,Rf.ownR L.wid L.ids x->x≠k/\¬yO L.iv x
 d3:¬yO L.iv k
def yB(k:Nat)(L:Loc)(x:Nat):Prop:=x=k\/qN L.kb L.ub x\/Rf.ownR L.wid L.ids x\/yO L.iv x
theorem Chg.big{S S':AS}{o o' O d:Nat->Prop}(h:Chg S S' o o')(g:∀x,o x->O x)(j:∀x,d x->o' x\/O x):Chg S S' O d:=by
 refine⟨h.1,h.2.1,fun x m f=>?_⟩;obtain⟨a,b⟩:=h.2.2 x m fun e=>f (g x e);exact⟨a,fun e=>(j x e).elim b f⟩
section
variable{S S':AS}{k:Nat}{L:Loc}{K:Kd}{R:List (List AV)}
def kdB:ByteArray:=⟨#[107,100,99,32]⟩
def zQ(n:Int):T:=zB (kdB++zE n)
end
def zjv:ByteArray:=⟨#[97,115,45,114,101,112]⟩
def jQ:ByteArray:=⟨#[109,111,114,101]⟩
def Cl.takeD(c:Cl)(o k:T)(r:Cl×T×T×Int):Cl×T×Int:=
 if r.2.2.2=0 then({r.1 with base:=r.2.2.1,z2:=false,done:=true,marks:=r.1.marks++[(jo o,c.nonce)]},r.1.says r.2.1 k,0)else(r.1,zw,r.2.2.2)
def Cl.takeM(c:Cl)(now:Int)(x:T):List T×Int->Cl×T×Int
 |([o,k],0)=>c.takeD o k (c.does o now x)
 |(_,e)=>(c,zw,e)
noncomputable def Cl.take(c:Cl)(t:T)(now:Int)(x:T):Cl×T×Int:=
 if c.on then
  match zaZ t with
  |some e=>({c with on:=false},zw,e)
  |none=>match zX zjv 3 t with
   |some [a,b,f]=>((c.ends a b f).1,zw,(c.ends a b f).2)
   |_=>c.takeM now x (kG jQ 2 (kP c.ak c.nonce t))
 else(c,zw,11)
structure Cl.ok(c:Cl):Prop where
 z1:c.on=true->c.z1=false
 z1d:c.done=true->c.z1=false
 z2:c.done=true->c.z2=false
 z3:c.ended=true->c.z3=false
 nonce:c.nonce.size<=4611686018427387904
 name:c.name.size<=4611686018427387904
 counter:0<=c.counter/\c.counter<4611686018427387904
 marks:c.marks.length<=1000000
theorem T.lo.name{t:T}(h:t.lo):t.name.size<=1099511627776:=by
 obtain⟨k,n,l⟩:=t;unfold T.lo at h;rw[T.bulk]at h;show n.size<=_;omega
section
variable{S:AS}{id:Nat}{c:Cl}{mv:AV}
end
def DV(S:AS)(o:Nat->Prop)(dv:AV)(l:List ByteArray):Prop:=dv=zk l\/∃id,dv=.arr id 1 0 l.length none/\S.heap id=some (.rows 1 (zv l))/\id<S.n/\¬o id
section
variable{S S':AS}{o o':Nat->Prop}{dv:AV}{l:List ByteArray}
theorem DV.keep(h:DV S o dv l)(d:Chg S S' o o'):DV S' o' dv l:=by
 rcases h with h|⟨id,f,g,e,j⟩
 ·exact .inl h
 ·obtain⟨a,b⟩:=d.2.2 id e j;exact .inr ⟨id,f,a.trans g,xan e d.2.1,b⟩
theorem DV.ss(h:DV S o dv l):vk S dv l:=by
 rcases h with rfl|⟨id,rfl,a,b,d⟩
 ·exact zBb
 ·exact zrR (by have:=wk a (Nat.zero_le id);rw[zag]at this;exact this) b rfl
theorem DV.nrm(h:DV S o dv l):dv.nrm=dv:=by
 rcases h with rfl|⟨id,rfl,_⟩
 ·simp
 ·rfl
theorem DV.reg(h:DV S o dv l):dv.isReg=false:=by
 rcases h with rfl|⟨id,rfl,_⟩<;>rfl
theorem DV.cell(h:DV S o dv l):dv.isCell=true:=by
 rcases h with rfl|⟨id,rfl,_⟩<;>rfl
theorem DV.len(h:DV S o dv l):pev .lenL [dv]=some (.sc (.int .i64 (l.length:Nat))):=by
 rcases h with rfl|⟨id,rfl,_⟩
 ·simp
 ·rfl
end
structure Tlk.okk(x:Tlk):Prop where
 client:x.c.client.size<=1099511627776
 nonce:x.c.nonce.size<=1099511627776
 done:x.c.done.length<=1000
 names:∀s∈x.c.done,s.size<=1099511627776
 now: -1000000000000000<=x.now/\x.now<=1000000000000000
def Kd.offK(K:Kd)(nx:ByteArray):Kd:=if nx=zr then K else {K with n:=K.n+1}
def Kd.offS(K:Kd)(nx:ByteArray):T:=if nx=zr then zw else zQ (K.n+1)
def jH(u:Us)(nx:ByteArray)(s:T):T:=if nx=zr then zG zr []else if nx=yo then zej u.key s else wP s
def Kd.offC(K:Kd)(x:Tlk)(s:T):Ck:={x.c with secret:=s,upto:=x.now+100}
def zsL(K:Kd)(x:Tlk)(o s:T):T:=kJ x.ak x.c.nonce (zG jQ [o,yJ K.cookies (K.offC x s)])
def Kd.offT(K:Kd)(x:Tlk)(nx:ByteArray):T:=zsL K x (jH x.u nx (K.offS nx)) (K.offS nx)
theorem zjP:zw.lo:=by
 show zw.bulk<=_;decide
theorem zkG{n:Int}(h: -9223372036854775808<=n)(b:n<9223372036854775808):(zQ n).lo:=by
 have a:=vN (n:=n) (by omega) (by omega);show(zB _).bulk<=_;rw[zcT];have:(kdB++zE n).size=4+(zE n).size:=by rw[xai];rfl
 omega
theorem Tlk.okk.ck{x:Tlk}(h:x.okk)(K:Kd){s:T}(hs:s.lo):(K.offC x s).ok where
 client:=by show x.c.client.size<=_;have:=h.client;omega
 nonce:=by show x.c.nonce.size<=_;have:=h.nonce;omega
 done:=by show x.c.done.length*48<=_;have:=h.done;omega
 names:=fun n hn=>by have:=h.names n hn;omega
 upto:=by have:=h.now;show inI (x.now+100);unfold inI;omega
 fits:=T.fits_bulk hs
 ofit:=T.ofit_bulk hs
section
variable{S:AS}{k:Nat}{L:Loc}{K:Kd}{R:List (List AV)}
noncomputable def yH(x:Tlk)(p:T)(nx:ByteArray):T×List Int×Int:=
 if nx=yg then(jy x.ak 46,kY x.ak x.c.secret p x.u.seed x.u.tok)
 else if nx=yo then((zau x.u.key x.body x.c.secret p).1,[],(zau x.u.key x.body x.c.secret p).2)
 else(x.u.key,[],wU x.ak x.u.key x.body p x.now)
def zd4(r:T×List Int×Int):AV:=.tup [.agg r.1.cells,yi r.2.1,.sc (.int .i64 r.2.2)]
theorem zIO{x:Tlk}{p:T}{nx:ByteArray}(hp:p.lo)(n:x.c.secret.lo)(q:x.now.natAbs<=1000000000000000):call 241 [.agg (x.cells (zk x.c.done)),.agg p.cells,.sc (.string nx)] S=some (zd4 (yH x p nx),S):=by
 have j:yL (x.cells (zk x.c.done))=x.cells (zk x.c.done):=by unfold Tlk.cells;simp
 rw[zi zwl rfl (by simp[j]) rfl];have xc:=@Tlk.cell x (zk x.c.done) rfl;unfold yH;by_cases f:nx=yg
 ·have g:(nx=⟨#[111,116,112]⟩)=True:=eq_true f;rw[if_pos f];have a:=fun S=>@zJd S x.ak x.c.secret p x.u.seed x.u.tok hp.bb;have b:=fun S=>@zjF S x.ak 46 i46 (by omega);simp[f241,zhk,xc,g,a,b,qf,zd4]
 ·have g:(nx=⟨#[111,116,112]⟩)=False:=eq_false f;rw[if_neg f];by_cases h:nx=yo
  ·have m:(nx=⟨#[115,112,97,107,101]⟩)=True:=eq_true h;rw[if_pos h];have d:=fun S=>@zJe S x.u.key x.body x.c.secret p hp n;simp[f241,zhk,xc,g,m,d,zt,zd4];rfl
  ·have m:(nx=⟨#[115,112,97,107,101]⟩)=False:=eq_false h;rw[if_neg h];have e:=fun S=>@zIB S x.ak x.u.key x.body p x.now hp.bb q;simp[f241,zhk,xc,g,m,e,zd4];rfl
end
def Us.rowV(u:Us)(v:AV):List AV:=[.sc (.string u.name),.sc (.int .i64 u.key.kind),.sc (.string u.key.name),zh u.key.kids,v,.sc (.int .i64 u.seed.kind),.sc (.string u.seed.name),zh u.seed.kids,
 .sc (.int .i64 u.tok.counter),.sc (.int .i64 u.tok.look),.sc (.int .i64 u.tok.sync),.sc (.int .i64 u.tok.pending),.sc (.int .i64 u.tok.fails),.sc (.int .i64 u.tok.limit),.sc (.int .i64 u.fails)]
theorem zHS{u:Us}:u.rowV (zk u.set)=u.row:=rfl
theorem zfO{u:Us}{v:AV}:(u.rowV v).length=15:=rfl
theorem zmC{u:Us}{v:AV}:List.take 15 (u.rowV v)=u.rowV v:=rfl
theorem zd8{u:Us}{v:AV}(h:v.isCell=true):(u.rowV v).all AV.isCell=true:=by unfold Us.rowV;simp[h]
theorem zHR{u:Us}{v:AV}(h:v.nrm=v):yL (u.rowV v)=u.rowV v:=by unfold Us.rowV;simp[h]
def j8(S:AS)(v:AV)(l:List ByteArray):Prop:=v=zk l\/∃id,v=.arr id 1 0 l.length none/\S.heap id=some (.rows 1 (zv l))/\id<S.n
section
variable{S S':AS}{v:AV}{l:List ByteArray}
theorem j8.nrm(h:j8 S v l):v.nrm=v:=by
 rcases h with rfl|⟨id,rfl,_⟩
 ·simp
 ·rfl
theorem j8.reg(h:j8 S v l):v.isReg=false:=by rcases h with rfl|⟨id,rfl,_⟩<;>rfl
theorem j8.cell(h:j8 S v l):v.isCell=true:=by rcases h with rfl|⟨id,rfl,_⟩<;>rfl
theorem j8.rows(h:j8 S v l):zD 1 S v=some (zv l):=by
 rcases h with rfl|⟨id,rfl,a,b⟩
 ·have:=zje S l;exact this
 ·simp only[zD,if_true];have:=wk a (Nat.zero_le id);rw[zag]at this;exact this
theorem j8.keep(h:j8 S v l)(b:S.n<=S'.n)(d:∀x,x<S.n->yO v x->S'.heap x=S.heap x):j8 S' v l:=by
 rcases h with h|⟨id,rfl,e,a⟩
 ·exact .inl h
 ·exact .inr ⟨id,rfl,(d id a ⟨_,_,_,_,rfl⟩).trans e,xan a b⟩
theorem j8.ro(h:j8 S v l)(r:Nat):j8 {S with ro:=r} v l:=by
 rcases h with h|⟨id,a,b,d⟩
 ·exact .inl h
 ·exact .inr ⟨id,a,b,d⟩
theorem zgr(h:j8 S v l)(a:l.length*16<=140737488355328):call 202 [v] S=some (.arr S.n 1 0 l.length none,S.new (.rows 1 (zv l))):=by
 rw[show call 202 [v] S=jN 1 16 [v] S from zbh zv6 (by simp[h.reg])];show(zD 1 S v).bind _=_;rw[h.rows];simp only[xae,zag];rw[if_pos a]
theorem znZ{id least d:Nat}(h:S.heap id=some (.rows 1 (zv l)))(a:least<=id):S.frzTo least (d+1) (.arr id 1 0 l.length none)=some (zk l):=by
 have b:=wk h a;rw[zag]at b;rw[ziQ b];have:zI (zI (S.frzTo least d)) (zv l)=some (zv l):=by simp
 rw[this];rfl
theorem zHQ{u:Us}{least d:Nat}(h:S.frzTo least d v=some (zk u.set)):zI (S.frzTo least d) (u.rowV v)=some u.row:=by
 unfold Us.rowV Us.row;simp[h]
theorem zmX{u:Us}(h:j8 S v u.set)(p:u.set.length*16<=140737488355328):call 323 [.agg (u.rowV v)] S=some (.agg u.row,S):=by
 rw[kr zxc (args':=[.agg (u.rowV v)]) (by simp) (by simp[zHR h.nrm]) rfl];have a:=zgr (h.ro S.n) p;have q:=@zd8 u v h.cell;have e:=@zfO u v;have f:=@zmC u v;have r:List.take 1 (List.drop 4 (u.rowV v))=[v]:=rfl;have b:∀w,List.take 4 (u.rowV v)++w::List.drop 5 (u.rowV v)=u.rowV w:=fun w=>rfl;have hS:({S with ro:=S.n}:AS).n=S.n:=rfl;rw[hS]at a;have s:(({S with ro:=S.n}:AS).new (.rows 1 (zv u.set))).heap S.n=some (.rows 1 (zv u.set)):=jX;generalize(({S with ro:=S.n}:AS).new (.rows 1 (zv u.set)))=t at *;have y:=@zHQ t (.arr S.n 1 0 u.set.length none) u S.n 2 (znZ (d:=1) s (xad _));have g:=@zd8 u (.arr S.n 1 0 u.set.length none) rfl;have j:=@zfO u (.arr S.n 1 0 u.set.length none);have m:=@zmC u (.arr S.n 1 0 u.set.length none);have hp:=@Us.pure u;have z:=h.reg;have b:=b (.arr S.n 1 0 u.set.length none);generalize u.rowV (.arr S.n 1 0 u.set.length none)=A at *;generalize u.rowV v=R at *;generalize u.row=B at *;simp[zhM,zqe,a,q,e,f,r,b,y,g,j,m,hp,z,zj]
end
structure AtBp(S:AS)(kb ub:Nat)(us:List Us)(sv:List AV)(i:Nat)(u:Us):Prop where
 h1:S.heap kb=some (.rows 1 [[.arr ub 15 0 us.length none]])
 h2:S.heap ub=some (.rows 15 (List.zipWith Us.rowV (us.set i u) sv))
 sl:sv.length=us.length
 hs:∀(j:Nat) (w:Us) (v:AV),(us.set i u)[j]?=some w->sv[j]?=some v->j8 S v w.set/\w.set.length<=1000
 hi:i<us.length
 fr:∀(j:Nat) (v:Us),us[j]?=some v->j<i->v.name≠u.name
 sm:us.length<=1000
section
variable{S:AS}{kb ub:Nat}{us:List Us}{sv:List AV}{i:Nat}{u:Us}
theorem AtBp.ro(h:AtBp S kb ub us sv i u)(r:Nat):AtBp {S with ro:=r} kb ub us sv i u:=⟨h.h1,h.h2,h.sl,fun j w v a b=>⟨(h.hs j w v a b).1.ro r,(h.hs j w v a b).2⟩,h.hi,h.fr,h.sm⟩
theorem AtBp.list(h:AtBp S kb ub us sv i u)(d:Option Nat)(rg:Nat->Option (List AV)):ze (.ld none 1 false) d rg S [.ptr kb 0 0]=some (.arr ub 15 0 us.length none,none,S):=by rw[zY h.h1];rfl
theorem AtBp.get(h:AtBp S kb ub us sv i u):(us.set i u)[i]?=some u:=by rw[List.getElem?_set_self h.hi]
theorem AtBp.val(h:AtBp S kb ub us sv i u):∃v,sv[i]?=some v:=⟨sv[i]'(by have:=h.sl;have:=h.hi;omega),by simp⟩
theorem zf6{l:List Us}{j:Nat}{w:Us}{v:AV}(a:l[j]?=some w)(b:sv[j]?=some v):(List.zipWith Us.rowV l sv)[j]?=some (w.rowV v):=by
 rw[List.getElem?_zipWith,a,b]
theorem AtBp.row(h:AtBp S kb ub us sv i u){j:Nat}{w:Us}{v:AV}(a:(us.set i u)[j]?=some w)(b:sv[j]?=some v)(d:Option Nat)(rg:Nat->Option (List AV)):ze (.ld none 15 true) d rg S [.ptr ub j 0]=some (.agg (w.rowV v),none,S):=by
 rw[zY h.h2,zf6 a b];rfl
theorem AtBp.ufails(h:AtBp S kb ub us sv i u)(d:Option Nat)(rg:Nat->Option (List AV)):ze (.ld none 1 false) d rg S [.ptr ub i 14]=some (.sc (.int .i64 u.fails),none,S):=by
 obtain⟨v,a⟩:=h.val;rw[zY h.h2,zf6 h.get a];rfl
theorem AtBp.utok(h:AtBp S kb ub us sv i u)(d:Option Nat)(rg:Nat->Option (List AV)):ze (.ld none 6 true) d rg S [.ptr ub i 8]=some (.agg u.tok.cells,none,S):=by
 obtain⟨v,a⟩:=h.val;rw[zY h.h2,zf6 h.get a];rfl
theorem zBG{w:Us}{v:AV}{n:ByteArray}(a:v.isCell=true)(f:v.isReg=false):call 471 [.agg (w.rowV v),.iptr [.sc (.string n)]] S=some (.sc (.bool (decide (w.name=n))),S):=by
 rw[z8 zyg (by simp) rfl];have b:=@zd8 w v a;have d:=@zfO w v;have e:List.take 1 (w.rowV v)=[.sc (.string w.name)]:=rfl;generalize w.rowV v=R at *;simp[ziE,zqQ,b,d,e]
theorem zBF(h:AtBp S kb ub us sv i u){n:ByteArray}(O:vD us i u n):call 470 [.arr ub 15 0 us.length none,.fn 471 [] [.iptr [.sc (.string n)]]] S=some (.sc (.int .i64 (um i u n)),S):=by
 rw[z8 zgd (by simp) rfl];simp only[zck];simp[zfd];have M:(us.set i u).length=us.length:=List.length_set;have P:=h.sm;have Q:=h.sl;refine y8 (α:=Nat) (R:=fun _ r=>r=some (.sc (.int .i64 (um i u n)),S)) (fun q e rg S'=>q<=us.length/\S'=S/\e 0=.arr ub 15 0 us.length none/\e 1=.fn 471 [] [.iptr [.sc (.string n)]]/\e 7=.sc (.int .i64 (us.length:Nat))/\e 8=.sc (.int .i64 (q:Nat))/\(∀(j:Nat) (v:Us),j<q->(us.set i u)[j]?=some v->v.name≠n)) (fun q=>us.length-q) ?_ 0 _ _ _ ?_;rotate_left
 ·exact⟨by omega,rfl,by simp,by simp,by simp,by simp,by intro j v h;omega⟩
 intro W y q e rg S' ⟨X,D,B,E,C,F,g⟩ ih;subst D;by_cases G:q<us.length
 ·obtain⟨w,t⟩:=yV (l:=us.set i u) (i:=q) (by omega);obtain⟨v,N⟩:=yV (l:=sv) (i:=q) (by omega);have d:=h.row t N;obtain⟨H,_⟩:=h.hs q w v t N;have z:(q:Int)<(us.length:Int):=by omega
  have A:=@atm ub us q G;have T:=@zd8 w v H.cell;have U:=@zfO w v;have b:=@zBG S' w v n H.cell H.reg;have V:IntKind.i64.wrap ((q:Int)+1)=((q+1:Nat):Int):=w64 (by omega);by_cases m:w.name=n
  ·have a:u.name=n:=by
    rcases O with I|I
    ·exact I
    ·exact absurd m (I w (xaj t))
   have J:q=i:=by
    rcases Nat.lt_trichotomy q i with f|f|f
    ·rw[List.getElem?_set_ne (by omega)]at t;exact absurd (m.trans a.symm) (h.fr q w t f)
    ·exact f
    ·exact absurd a (g i u f h.get)
   have p:um i u n=(q:Int):=by unfold um;rw[if_pos a,J]
   rw[p];rw[decide_eq_true m]at b;generalize w.rowV v=R at *;simp[zcl,B,E,C,F,z,G,A,d,b];rw[y];simp
  ·rw[decide_eq_false m]at b;generalize w.rowV v=R at *;simp[zcl,B,E,C,F,z,G,A,d,b,V];refine ih (q+1) _ _ _ (by omega) (fun _ h=>h) ⟨by omega,rfl,by simp[B],by simp[E],by simp[C],by simp,fun j w' Y s=>?_⟩;rcases Nat.lt_or_ge j q with f|f
   ·exact g j w' f s
   ·have:j=q:=by omega
    subst this;rw[t]at s;cases s;exact m
 ·have m:q=us.length:=by omega
  subst m;have a:u.name≠n:=fun e=>g i u h.hi h.get e;have p:um i u n= -1:=by unfold um;rw[if_neg a]
  rw[p];simp[zcl,B,C,F];rw[y];simp
def zbL(ub i:Nat)(u:Us)(n:ByteArray):AV:=if u.name=n then .ptr ub i 0 else .sc (.pointer none)
theorem zdE(h:AtBp S kb ub us sv i u){n:ByteArray}(f:vD us i u n):call 439 [.ptr kb 0 0,.sc (.string n)] S=some (zbL ub i u n,S):=by
 rw[z8 zgc (by simp) rfl];have a:=zBF h f;have d:=@atm ub us i h.hi;have e:(0:Int)<=(i:Int):=by omega
 unfold um at a;unfold zbL;by_cases b:u.name=n
 ·rw[if_pos b]at a;rw[if_pos b];simp[zbr,zdt,h.list,a,d,e]
 ·rw[if_neg b]at a;rw[if_neg b];simp[zbr,zdt,h.list,a]
theorem zJm(h:AtBp S kb ub us sv i u){n:ByteArray}(q:vD us i u n):call 376 [.ptr kb 0 0,.sc (.string n)] S=some (if u.name=n then .tup [.agg u.row,.b true]else .tup [.agg zU.row,.b false],S):=by
 rw[zi znN rfl (by simp) rfl];have e:=h.ro S.n;have a:=zdE e q;unfold zbL at a;obtain⟨v,m⟩:=h.val;have f:=e.row e.get m;obtain⟨p,s⟩:=e.hs i u v e.get m;have g:=zmX p (by omega);by_cases j:u.name=n
 ·rw[if_pos j]at a;rw[if_pos j];have t:=@Us.row_cell u;have w:=@Us.row_len u;have y:=@Us.take u;have z:=fun S b d=>@Us.frz S b d u;have hp:=@Us.pure u;have A:=@zd8 u v p.cell;generalize u.rowV v=R at *;generalize u.row=r at *;simp[zdp,zid,a,f,g,t,w,y,z,hp,zj]
 ·rw[if_neg j]at a;rw[if_neg j];simp[zdp,zid,a,zjZ,zj]
theorem zup(h:AtBp S kb ub us sv i u){n:ByteArray}(e:vD us i u n):call 378 [.ptr kb 0 0,.sc (.string n)] S=some (.sc (.bool (!(decide (u.name=n))||decide (5<=u.fails))),S):=by
 rw[zi zxP rfl (by simp) rfl];have d:=h.ro S.n;have a:=zdE d e;unfold zbL at a;have f:=d.ufails;by_cases b:u.name=n
 ·rw[if_pos b]at a;simp[ze9,zll,a,b,f]
 ·rw[if_neg b]at a;simp[ze9,zll,a,b]
end
section
variable{S:AS}
theorem zJu{t:Tk}{l:List Int}(D:l.length<=1000000)(J:t.fails<4611686018427387904):call 442 [.agg t.cells,yi l] S=some (wM (t.accept l),S):=by
 rw[zi zyb rfl (by simp) rfl];have e:=fun S=>@zmT S t;unfold Tk.accept;cases E:t.right with
 |false=>rw[E]at e;unfold Tk.cells at *;simp[wE,zaH,e,wM,Tk.cells,zj]
 |true=>
  rw[E]at e;rw[if_pos rfl];have h:=Tk.right_iff.1 E;by_cases a:t.limit<=t.fails
  ·rw[if_pos a];unfold Tk.cells at *;simp[wE,zaH,e,a,wM,Tk.cells,zj]
  ·rw[if_neg a];have n:IntKind.i64.wrap (t.counter+t.look)=t.counter+t.look:=w64 (by omega);have d:=fun S=>@zm4 S l t.counter (t.counter+t.look) (by omega) D;have p:=fun S=>@zm4 S l t.pending t.pending (by omega) D;have f:=fun S=>@zm4 S l (t.counter+t.look+1) (t.counter+t.look+t.sync) (by omega) D;have M:=@zdH l t.counter (t.counter+t.look) (by omega);have N:=@zdH l t.pending t.pending (by omega);have O:=@zdH l (t.counter+t.look+1) (t.counter+t.look+t.sync) (by omega);have y:IntKind.i64.wrap (t.counter+t.look+1)=t.counter+t.look+1:=w64 (by omega);have z:IntKind.i64.wrap (t.counter+t.look+t.sync)=t.counter+t.look+t.sync:=w64 (by omega);have B:IntKind.i64.wrap (t.fails+1)=t.fails+1:=w64 (by omega);unfold Tk.acc0;generalize jv l t.counter (t.counter+t.look)=j at *;generalize jv l t.pending t.pending=q at *;generalize jv l (t.counter+t.look+1) (t.counter+t.look+t.sync)=g at *;have H:IntKind.i64.wrap (j+1)=j+1:=w64 (by omega);have I:IntKind.i64.wrap (q+1)=q+1:=w64 (by omega);have F:IntKind.i64.wrap (g+1)=g+1:=w64 (by omega);obtain⟨A,m⟩:∃A,A=(if j<0/\t.counter+t.look<t.pending then q else j):=⟨_,rfl⟩;rw[<-m];unfold ziV at d p f;unfold wM Tk.cells at *;by_cases C:j<0
   ·have r:¬0<=j:=by omega
    rw[if_pos C,decide_eq_false r]at d;by_cases hp:t.counter+t.look<t.pending
    ·rw[if_pos ⟨C,hp⟩]at m;rw[m];by_cases G:q<0
     ·have s:¬0<=q:=by omega
      rw[if_pos G,decide_eq_false s]at p;rw[if_neg s];by_cases w:g<0
      ·have b:¬0<=g:=by omega
       rw[if_pos w,decide_eq_false b]at f;rw[if_neg b];simp[wE,zaH,e,a,n,y,z,B,d,p,f,hp,zj]
      ·have b:0<=g:=by omega
       rw[if_neg w,decide_eq_true b]at f;rw[if_pos b];simp[wE,zaH,e,a,n,y,z,B,F,d,p,f,hp,zj]
     ·have s:0<=q:=by omega
      rw[if_neg G,decide_eq_true s]at p;rw[if_pos s];simp[wE,zaH,e,a,n,I,d,p,hp,zj]
    ·rw[if_neg (fun h=>hp h.2)]at m;rw[m];rw[if_neg r];by_cases w:g<0
     ·have b:¬0<=g:=by omega
      rw[if_pos w,decide_eq_false b]at f;rw[if_neg b];simp[wE,zaH,e,a,n,y,z,B,d,f,hp,zj]
     ·have b:0<=g:=by omega
      rw[if_neg w,decide_eq_true b]at f;rw[if_pos b];simp[wE,zaH,e,a,n,y,z,B,F,d,f,hp,zj]
   ·have r:0<=j:=by omega
    rw[if_neg C,decide_eq_true r]at d;rw[if_neg (fun h=>C h.1)]at m;rw[m];rw[if_pos r];simp[wE,zaH,e,a,n,H,d,zj]
end
structure jC(S:AS)(kb ub:Nat)(us:List Us)(sv:List AV)(i:Nat)(u:Us):Prop extends AtBp S kb ub us sv i u where
 r1:S.ro<=kb
 r2:S.ro<=ub
 l1:kb<S.n
 l2:ub<S.n
 ne:kb≠ub
 nv:∀v∈sv,¬yO v kb/\¬yO v ub
 lv:∀v∈sv,∀x,yO v x->x<S.n
def qD(kb ub:Nat)(sv:List AV)(x:Nat):Prop:=x=kb\/x=ub\/∃v∈sv,yO v x
section
variable{S:AS}{kb ub:Nat}{us:List Us}{sv:List AV}{i:Nat}{u:Us}
theorem jC.keep(h:jC S kb ub us sv i u){S':AS}(f:S'.ro=S.ro)(a:S.n<=S'.n)(b:∀x,x<S.n->qD kb ub sv x->S'.heap x=S.heap x):jC S' kb ub us sv i u:=
 ⟨⟨(b _ h.l1 (.inl rfl)).trans h.h1,(b _ h.l2 (.inr (.inl rfl))).trans h.h2,h.sl,fun j w v g d=>⟨(h.hs j w v g d).1.keep a fun x e m=>b x e (.inr (.inr ⟨v,xaj d,m⟩)),(h.hs j w v g d).2⟩,h.hi,h.fr,h.sm⟩,by rw[f];exact h.r1,by rw[f];exact h.r2,xan h.l1 a,xan h.l2 a,h.ne,h.nv,fun v p x e=>xan (h.lv v p x e) a⟩
theorem jC.lts(h:jC S kb ub us sv i u){x:Nat}(a:qD kb ub sv x):x<S.n:=by
 rcases a with rfl|rfl|⟨v,b,a⟩
 ·exact h.l1
 ·exact h.l2
 ·exact h.lv v b x a
theorem zKH{v:AV}{u':Us}(b:sv[i]?=some v):(List.zipWith Us.rowV (us.set i u) sv).set i (u'.rowV v)=List.zipWith Us.rowV (us.set i u') sv:=by
 apply List.ext_getElem?;intro j;by_cases a:i=j
 ·subst a;by_cases d:i<us.length
  ·have e:i<(List.zipWith Us.rowV (us.set i u) sv).length:=by
    rw[List.length_zipWith,List.length_set];have:=(xal.1 b).1;omega
   rw[List.getElem?_set_self e,List.getElem?_zipWith,List.getElem?_set_self d,b]
  ·rw[xap (by rw[List.length_set,List.length_zipWith,List.length_set];omega),xap (by rw[List.length_zipWith,List.length_set];omega)]
 ·rw[List.getElem?_set_ne a,List.getElem?_zipWith,List.getElem?_zipWith,List.getElem?_set_ne a,List.getElem?_set_ne a]
theorem jC.st(h:jC S kb ub us sv i u){col sz:Nat}{x:AV}{u':Us}(e:x.cells.length=sz)(f:x.cells.all AV.isCell=true)(g:∀v,setCells (u.rowV v) col x.cells=u'.rowV v)(a:col+sz<=15)(d:Option Nat)(rg:Nat->Option (List AV)):
 ze (.st none sz) d rg S [.ptr ub i col,x]=some (.junk,none,S.set ub (some (.rows 15 (List.zipWith Us.rowV (us.set i u') sv)))):=by
 obtain⟨v,b⟩:=h.val;simp only[ze,h.h2];rw[if_pos ⟨h.r2,f,e⟩,zf6 h.get b];simp only[xae];rw[if_pos (show col+sz<=(u.rowV v).length from a),g,zKH b]
theorem jC.set(h:jC S kb ub us sv i u){u':Us}(m:u'.name=u.name)(n:u'.set=u.set):jC (S.set ub (some (.rows 15 (List.zipWith Us.rowV (us.set i u') sv)))) kb ub us sv i u':=by
 refine⟨⟨(if_neg h.ne).trans h.h1,if_pos rfl,h.sl,fun j w v d f=>?_,h.hi,fun j v d f=>by rw[m];exact h.fr j v d f,h.sm⟩,h.r1,h.r2,h.l1,h.l2,h.ne,h.nv,h.lv⟩;have key:∃w',(us.set i u)[j]?=some w'/\w'.set=w.set:=by
  by_cases g:i=j
  ·subst g;rw[List.getElem?_set_self h.hi]at d;cases d;exact⟨u,h.get,n.symm⟩
  ·rw[List.getElem?_set_ne g]at d;exact⟨w,by rw[List.getElem?_set_ne g];exact d,rfl⟩
 obtain⟨w',p,q⟩:=key;obtain⟨a,b⟩:=h.hs j w' v p f;rw[q]at a b;exact⟨a.keep (xad _) fun x s r=>if_neg fun e:x=ub=>(h.nv v (xaj f)).2 (by rw[<-e];exact r),b⟩
theorem jC.chg{o:Option yX}:Chg S (S.set ub o) (qD kb ub sv) (qD kb ub sv):=⟨rfl,xad _,fun x _ a=>⟨if_neg fun e=>a (.inr (.inl e)),a⟩⟩
theorem zBC{n:Int}(b:0<=n/\n<4611686018427387904):call 441 [.sc (.int .i64 n)] S=some (.sc (.int .i64 (n+1)),S):=by
 rw[z8 zya (by simp) rfl];have a:IntKind.i64.wrap (n+1)=n+1:=w64 (by omega);simp[ziz,zqL,a]
theorem zBD{n:Int}:call 443 [.sc (.int .i64 n)] S=some (.i 0,S):=by
 rw[z8 zyc (by simp) rfl];simp[ziA,zqM]
theorem zr5(h:jC S kb ub us sv i u){f:Nat}{m:Int}(d:call f [.sc (.int .i64 u.fails)] S=some (.sc (.int .i64 m),S)):∃S',call 440 [.ptr kb 0 0,.sc (.string u.name),.fn f [] []] S=some (.i 0,S')/\jC S' kb ub us sv i {u with fails:=m}/\Chg S S' (qD kb ub sv) (qD kb ub sv):=by
 rw[z8 zx9 (by simp) rfl];have a:=zdE h.toAtBp (n:=u.name) (.inl rfl);unfold zbL at a;rw[if_pos rfl]at a;have b:=h.st (col:=14) (sz:=1) (x:=.sc (.int .i64 m)) (u':={u with fails:=m}) rfl rfl (fun _=>rfl) (by omega);refine⟨_,?_,h.set (u':={u with fails:=m}) rfl rfl,jC.chg⟩;simp[ziy,zqK,a,h.ufails,d,b]
theorem zBz(h:jC S kb ub us sv i u)(a:0<=u.fails/\u.fails<4611686018427387904):∃S',call 382 [.ptr kb 0 0,.sc (.string u.name)] S=some (.i 0,S')/\jC S' kb ub us sv i {u with fails:=u.fails+1}/\Chg S S' (qD kb ub sv) (qD kb ub sv):=by
 obtain⟨S',e,r⟩:=zr5 h (zBC a);refine⟨S',?_,r⟩;rw[z8 zxT (by simp) rfl];simp[zij,zqB,e]
theorem zBB(h:jC S kb ub us sv i u):∃S',call 384 [.ptr kb 0 0,.sc (.string u.name)] S=some (.i 0,S')/\jC S' kb ub us sv i {u with fails:=0}/\Chg S S' (qD kb ub sv) (qD kb ub sv):=by
 obtain⟨S',e,r⟩:=zr5 h zBD;refine⟨S',?_,r⟩;rw[z8 zxV (by simp) rfl];simp[zik,zqC,e]
theorem zBA(h:jC S kb ub us sv i u){l:List Int}(f:l.length<=1000000)(j:u.tok.fails<4611686018427387904):
 ∃S',call 383 [.ptr kb 0 0,.sc (.string u.name),yi l] S=some (.tup (if 5<=u.fails then[.i 0,.i 7]else[.sc (.int .i64 (u.tok.accept l).2.1),.sc (.int .i64 (u.tok.accept l).2.2)]),S')/\jC S' kb ub us sv i (if 5<=u.fails then u else {u with tok:=(u.tok.accept l).1})/\Chg S S' (qD kb ub sv) (qD kb ub sv):=by
 rw[z8 zxU (by simp) rfl];have a:=zdE h.toAtBp (n:=u.name) (.inl rfl);unfold zbL at a;rw[if_pos rfl]at a;have b:=zup h.toAtBp (n:=u.name) (.inl rfl);by_cases e:5<=u.fails
 ·refine⟨S,?_,by rw[if_pos e];exact h,Chg.refl⟩;rw[if_pos e];simp[e]at b;simp[zfa,zlm,a,b]
 ·rw[if_neg e,if_neg e];simp[e]at b;have d:=fun S=>@zJu S u.tok l f j;have g:=h.st (col:=8) (sz:=6) (x:=.agg (u.tok.accept l).1.cells) (u':={u with tok:=(u.tok.accept l).1}) rfl rfl (fun _=>rfl) (by omega);refine⟨_,?_,h.set (u':={u with tok:=(u.tok.accept l).1}) rfl rfl,jC.chg⟩;generalize u.tok.accept l=r at *;unfold wM at d;have m:r.1.cells.all AV.isCell=true:=rfl;have f:r.1.cells.length=6:=rfl;have p:List.take 6 r.1.cells=r.1.cells:=rfl;generalize r.1.cells=q at *;generalize S.set ub _=S' at *;simp[zfa,zlm,a,b,h.utok,d,m,f,p,g]
end
def zf0:ByteArray:=⟨#[116,105,99,107,101,116]⟩
def jP(client nonce:ByteArray)(dv:AV)(s:T):List AV:=.sc (.string client)::.sc (.string nonce)::dv::s.cells
def Kd.tktK(K:Kd):Kd:={K with n:=K.n+1+1,u:={K.u with fails:=0}}
def tkt(key:T)(client:ByteArray)(s:T)(done:List ByteArray)(now:Int):T:=jk key 3 (zG zf0 [yU client,s,zS (jp done),qG now])
def zjV(st base s:T)(nonce:ByteArray)(t:T):T:=jk (zcG st base) 3 (zG zeD [s,yU nonce,yC t])
def zam(ak:T)(nonce:ByteArray)(base s st t:T):T:=zG zjv [t,zjV st base s nonce t,kJ ak nonce (zG zfl [st,yC t])]
def Kd.tktT(K:Kd)(x:Tlk)(base:T):T:=zam x.ak x.c.nonce base (zQ (K.n+1)) (zQ (K.n+1+1)) (tkt K.key x.c.client (zQ (K.n+1)) x.c.done x.now)
section
variable{S:AS}{k:Nat}{L:Loc}{K:Kd}{R:List (List AV)}
theorem zoe{client nonce:ByteArray}{dv:AV}{s:T}(a:dv.cells=[dv])(b:dv.isCell=true):pev (.build [.s ⟨#[]⟩,.s ⟨#[]⟩,.lst 0 true [],.i (0),.s ⟨#[]⟩,.lst 0 true []] [(0,1),(1,1),(2,1),(3,3)]) [.sc (.string client),.sc (.string nonce),dv,.agg s.cells]=some (.agg (jP client nonce dv s)):=by
 unfold jP;rw[zq];simp[a,b]
theorem DV.cells{S:AS}{o:Nat->Prop}{dv:AV}{l:List ByteArray}(h:DV S o dv l):dv.cells=[dv]:=by
 rcases h with rfl|⟨id,rfl,_⟩<;>rfl
end
def smE(e:Int):Prop:=0<=e/\e<=100
theorem znv{k t:T}{n:Int}:smE (jz k n t).2:=by
 unfold jz vB smE;split
 ·split
  ·split<;>simp
  ·simp
 ·simp
theorem zGg{tag:ByteArray}{n:Nat}{r:T×Int}(h:smE r.2):smE (kG tag n r).2:=by
 unfold kG;split
 ·split<;>simp[smE]
 ·exact h
theorem zm9{k t:T}{u:Int}{tag:ByteArray}{n:Nat}:smE (qP k u t tag n).2:=zGg znv
theorem zHF{k b t:T}:smE (vP k b t).2.2:=by
 have h:=@zm9 k t 51 qx 3;unfold vP;generalize qP k 51 t qx 3=r at h;obtain⟨l,e⟩:=r;unfold wL;split
 ·split<;>simp[smE]
 ·rename_i a;cases a;exact h
theorem zyK{h:T}{r:List T×Int}(a:smE r.2):smE (zgg h r).2:=by
 unfold zgg;split
 ·simp[smE]
 ·exact a
theorem zyI{t:T}{r:List T×Int}(a:smE r.2):smE (vo t r).2:=by
 unfold vo;split
 ·exact zyK zm9
 ·exact a
theorem zyJ{k t:T}:smE (qI k t).2:=by
 unfold qI;split
 ·exact zyI zm9
 ·simp[smE]
theorem zF7{k t:T}{now:Int}:smE (jg k t now).2:=by
 unfold jg smE;split
 ·split
  ·split
   ·split
    ·split
     ·split<;>simp
     ·simp
    ·simp
   ·simp
  ·simp
 ·simp
theorem zF6{k t:T}{now:Int}(h:t.lo):(jg k t now).1.secret.lo:=by
 unfold jg;split
 ·split
  ·rename_i j b d;have e:b.lo:=h.kid (by rw[d];simp);split
   ·split
    ·rename_i m n p f k5 a;have g:f.lo:=e.kid (by rw[a];simp);split
     ·split
      ·exact qr
      ·exact g
     ·exact qr
    ·exact qr
   ·exact qr
  ·exact qr
 ·exact qr
theorem zzG{u b y p:T}:smE (zau u b y p).2:=by
 have a:∀l,smE (j9 u l).2:=by
  intro l;unfold j9;split
  ·split
   ·unfold vW;split
    ·split
     ·split<;>simp[smE]
     ·simp[smE]
    ·simp[smE]
   ·simp[smE]
  ·simp[smE]
 unfold zau;split
 ·rename_i l f _;unfold zez;split
  ·split<;>simp[smE]
  ·exact a l
 ·simp[smE]
theorem zAU{ak n p s:T}{t:Tk}:smE (kY ak n p s t).2:=by
 unfold kY;split
 ·rename_i x _;unfold zbw;split
  ·split
   ·unfold zcv;split
    ·split<;>simp[smE]
    ·simp[smE]
   ·simp[smE]
  ·exact znv
 ·simp[smE]
theorem zzH{a u body p:T}{now:Int}:smE (wU a u body p now):=by
 unfold wU;split
 ·rename_i x _;unfold zeA;split
  ·simp[smE]
  ·split
   ·split
    ·unfold zex;split
     ·split
      ·unfold zey;split
       ·split<;>simp[smE]
       ·simp[smE]
      ·simp[smE]
     ·simp[smE]
    ·simp[smE]
   ·exact znv
 ·simp[smE]
theorem zks{x:Tlk}{p:T}{nx:ByteArray}:smE (yH x p nx).2.2:=by
 unfold yH;split
 ·exact zAU
 ·split
  ·exact zzG
  ·exact zzH
theorem zzd{t:T}{a b:ByteArray}(j:t.lo)(h:jL t=some (a,b)):a.size<=1099511627776/\b.size<=1099511627776:=by
 unfold jL at h;cases f:zX vF 2 t with
 |none=>rw[f]at h;cases h
 |some l=>
  obtain⟨r,m⟩:=jO (n:=2) f;obtain⟨x,y,rfl⟩:=zaQ r;rw[f]at h;have s:x.lo:=j.kid (m x (by simp));have A:y.lo:=j.kid (m y (by simp));have d:∀(z:T) (w:ByteArray),z.lo->j6 z=some w->w.size<=1099511627776:=by
   intro z w B d;have:=B.name;unfold j6 at d;split at d
   ·have:=zky d;omega
   ·cases d
  show _/\_;cases e:j6 x with
  |none=>simp[zbW,e]at h
  |some p=>
   cases g:j6 y with
   |none=>simp[zbW,e,g]at h
   |some q=>
    simp[zbW,e,g]at h;obtain⟨_,rfl,rfl⟩:=h;exact⟨d _ _ s e,d _ _ A g⟩
structure Kd.opOk(K:Kd)(now:Int)(r:Tlk×T×Int):Prop where
 e:smE r.2.2
 u:r.2.2=0->r.1.u=K.u
 now:r.2.2=0->r.1.now=now
 client:r.2.2=0->r.1.c.client=K.u.name
 nonce:r.2.2=0->r.1.c.nonce.size<=1099511627776
 done:r.2.2=0->r.1.c.done=[]\/jK r.1.c.done K.u.set=true
 secret:r.2.2=0->r.1.c.secret.lo
 p:r.2.2=0->r.2.1.lo
theorem zaV{K:Kd}{now:Int}{x:Tlk}{t:T}{e:Int}(b:smE e)(a:e≠0):K.opOk now (x,t,e):=
 ⟨b,fun h=>absurd h a,fun h=>absurd h a,fun h=>absurd h a,fun h=>absurd h a,fun h=>absurd h a,fun h=>absurd h a,fun h=>absurd h a⟩
theorem zmh{K:Kd}{t:T}{now:Int}(w:t.lo):K.opOk now (K.opens t now):=by
 unfold Kd.opens;have y:smE 2:=by simp[smE]
 have C:smE 3:=by simp[smE]
 have h:smE 11:=by simp[smE]
 have z:smE 7:=by simp[smE]
 have A:smE 0:=by simp[smE]
 cases j:qY t with
 |none=>exact zaV y (by decide)
 |some r=>
  obtain⟨body,armor,sealed⟩:=r;obtain⟨D,O,E⟩:=zkd j;have F:=w.kid D;have G:=w.kid E;show K.opOk now (K.opB t body armor sealed now (jL body));cases H:jL body with
  |none=>exact zaV y (by decide)
  |some q=>
   obtain⟨client,nonce⟩:=q;have B:=zzd F H;show K.opOk now (K.opA t body sealed client nonce now (qI K.key armor));unfold Kd.opA;have j:=@zyJ K.key armor;generalize qI K.key armor=a at *;by_cases m:a.2=0
   ·rw[if_pos m];have I:=@zHF a.1 body sealed;have d:=zmz (k:=a.1) (b:=body) G;unfold Kd.opR;generalize vP a.1 body sealed=r at *;by_cases n:r.2.2=0
    ·rw[if_pos n];by_cases g:K.u.name=client
     ·rw[if_pos g];cases P:yR r.2.1 with
      |true=>
       rw[if_pos rfl];unfold Kd.opF;split
       ·exact zaV z (by decide)
       ·exact⟨A,fun _=>rfl,fun _=>rfl,fun _=>g.symm,fun _=>B.2,fun _=>.inl rfl,fun _=>zjP,fun _=>d.2⟩
      |false=>
       rw[if_neg (by simp)];have J:=@zF7 K.cookies r.2.1 now;have M:=zF6 (k:=K.cookies) (now:=now) d.1;unfold Kd.opC;generalize jg K.cookies r.2.1 now=o at *;by_cases p:o.2=0
       ·rw[if_pos p];split
        ·rename_i N;obtain⟨e,f,s⟩:=N;simp only at e f;unfold Kd.opF;split
         ·exact zaV z (by decide)
         ·exact⟨A,fun _=>rfl,fun _=>rfl,fun _=>e.trans g.symm,fun _=>by show o.1.nonce.size<=_;rw[f];exact B.2,fun _=>.inr s,fun _=>M,fun _=>d.2⟩
        ·exact zaV h (by decide)
       ·rw[if_neg p];exact zaV J p
     ·rw[if_neg g];exact zaV C (by decide)
    ·rw[if_neg n];exact zaV I n
   ·rw[if_neg m];exact zaV j m
abbrev Isd:=Option (ByteArray×ByteArray×List ByteArray×T)
def Tlk.more(x:Tlk)(nx:ByteArray):Tlk:={x with c:={x.c with done:=x.c.done++[nx]}}
def Kd.reqD(K:Kd)(x:Tlk)(base:T):T×Kd×Isd:=if x.c.done.length=x.u.set.length then(K.tktT x base,K.tktK,some (x.c.client,x.c.nonce,x.c.done,zQ (K.n+1)))else
 match x.u.set[x.c.done.length]? with
 |some nx=>(K.offT x nx,K.offK nx,none)
 |none=>(tZ,K,none)
def Kd.reqO(K:Kd)(x:Tlk)(base:T)(a:Tk×Int×Int):T×Kd×Isd:=
 if 5<=K.u.fails then(jx 7,K,none)else
 if a.2.2=0 then Kd.reqD {K with u:={K.u with tok:=a.1}} x base else(jx a.2.2,{K with u:={K.u with tok:=a.1}},none)
def Kd.reqS(K:Kd)(x:Tlk)(nx:ByteArray)(r:T×List Int×Int)(s:Int×List (ByteArray×Int)):T×Kd×Isd:=
 if s.1=0 then(if nx=yg then Kd.reqO {K with cache:=s.2} (x.more nx) r.1 (K.u.tok.accept r.2.1)else Kd.reqD {K with cache:=s.2} (x.more nx) r.1)else(jx s.1,{K with cache:=s.2},none)
def Kd.reqC(K:Kd)(x:Tlk)(p:T)(nx:ByteArray)(now:Int)(r:T×List Int×Int):T×Kd×Isd:=
 if r.2.2=0 then K.reqS x nx r (Rf.seenR K.room K.cache p.txt (now+100+1) now)else(jx r.2.2,if r.2.2=6 then {K with u:={K.u with fails:=K.u.fails+1}} else K,none)
noncomputable def Kd.reqN(K:Kd)(x:Tlk)(p:T)(now:Int)(nx:ByteArray):T×Kd×Isd:=
 if yR p=true then(K.offT x nx,K.offK nx,none)else
 if jo p=nx/\(nx=zr\/yR x.c.secret=false)then K.reqC x p nx now (yH x p nx)else(jx 11,K,none)
noncomputable def Kd.reqX(K:Kd)(now:Int)(r:Tlk×T×Int):T×Kd×Isd:=
 if r.2.2=0 then(match r.1.u.set[r.1.c.done.length]? with
  |some nx=>K.reqN r.1 r.2.1 now nx
  |none=>(tZ,K,none))else(jx r.2.2,K,none)
noncomputable def Kd.req(K:Kd)(t:T)(now:Int):T×Kd×Isd:=K.reqX now (K.opens t now)
theorem zka{S:AS}{l:List ByteArray}{nx:ByteArray}(f:S.ro<=S.n)(m:l.length<=1000):∃g h id e,(∀d rg,ze (.append 1 16) d rg S [.lst 1 true [],zk l]=some (g,none,h))/\g.isReg=false/\
 (∀d rg,ze (.append 1 16) d rg h [g,.lst 1 true [[.sc (.string nx)]]]=some (.arr id 1 0 (l++[nx]).length none,none,e))/\e.heap id=some (.rows 1 (zv (l++[nx])))/\S.n<=id/\id<e.n/\e.ro=S.ro/\S.n<=e.n/\∀j,j<S.n->e.heap j=S.heap j:=by
 have p:=zje S l;have b:(zv l).length=l.length:=zag ..;refine⟨.arr S.n 1 0 l.length none,S.new (.rows 1 (zv l)),S.n+1,((S.new (.rows 1 (zv l))).set S.n none).new (.rows 1 (zv (l++[nx]))),fun d rg=>?_,rfl,fun d rg=>?_,jX,Nat.le_succ _,xay _,rfl,?_,fun j s=>?_⟩
 ·simp only[ze,p,xae];cases l with
  |nil=>simp[jq,zv]
  |cons a l=>
   unfold jq;simp only[show(zv (a::l)).isEmpty=false from rfl,xau,if_false,List.isEmpty_nil,Bool.true_or,Bool.true_and,List.length_nil,Nat.zero_add,decide_eq_true_eq,List.nil_append];rw[if_pos (by rw[b];simp at m;simp;omega),b];rfl
 ·have q:zj1 (S.new (.rows 1 (zv l))) S.n 1 (zv l):=⟨jX,f,xay _⟩;have:=zsT (d:=d) (rg:=rg) (bytes:=16) q (ys:=[[.sc (.string nx)]]) (by simp) (by rw[b];simp;omega);rw[b]at this;have r:(S.new (.rows 1 (zv l))).n=S.n+1:=rfl;rw[r]at this;simpa[zv]using this
 ·show S.n<=S.n+1+1;omega
 ·show(if j=S.n+1 then _ else(if j=S.n then _ else(if j=S.n then _ else _)))=_;rw[if_neg (by omega),if_neg (by omega),if_neg (by omega)]
structure Kd.okk(K:Kd):Prop where
 cookies:K.cookies.lo
 set1:1<=K.u.set.length
 set2:K.u.set.length<=1000
 names:∀s∈K.u.set,s.size<=1099511627776
 name:K.u.name.size<=1099511627776
 tok:K.u.tok.fails<4611686018427387904
 fails:0<=K.u.fails/\K.u.fails<4611686018427387904
 n:0<=K.n/\K.n<4611686018427387000
 cache:K.cache.length<=1000
def wq(S S':AS)(o:Nat->Prop)(R a:List (List AV)):Isd->Prop
 |none=>a=R
 |some (c,n,d,s)=>∃id,a=R++[jP c n (.arr id 1 0 d.length none) s]/\S'.heap id=some (.rows 1 (zv d))/\S.n<=id/\id<S'.n/\¬o id
theorem zjx{K:Kd}{x:Tlk}{p:T}{now:Int}{nx:ByteArray}(h:yR p=true):K.reqN x p now nx=(K.offT x nx,K.offK nx,none):=if_pos h
theorem zmw{K:Kd}{x:Tlk}{p:T}{now:Int}{nx:ByteArray}(h:yR p=false)(a:¬(jo p=nx/\(nx=zr\/yR x.c.secret=false))):K.reqN x p now nx=(jx 11,K,none):=by
 unfold Kd.reqN;rw[if_neg (by rw[h];simp),if_neg a]
theorem zmx{K:Kd}{x:Tlk}{p:T}{now:Int}{nx:ByteArray}(h:yR p=false)(a:jo p=nx/\(nx=zr\/yR x.c.secret=false)):K.reqN x p now nx=K.reqC x p nx now (yH x p nx):=by
 unfold Kd.reqN;rw[if_neg (by rw[h];simp),if_pos a]
theorem zna{room t now:Int}{l:List (ByteArray×Int)}{id:ByteArray}:smE (Rf.seenR room l id t now).1:=by
 unfold Rf.seenR;split
 ·simp[smE]
 ·split
  ·simp[smE]
  ·split<;>simp[smE]
theorem znQ{t:Tk}{l:List Int}:smE (t.accept l).2.2:=by
 unfold Tk.accept;split
 ·split
  ·simp[smE]
  ·split
   ·simp[smE]
   ·split<;>simp[smE]
 ·simp[smE]
theorem zAT(t:Tk):yY t<=71:=by unfold yY;omega
theorem zrB{t:Tk}{s b:T}:(wG t s b).length<=73:=by
 have a:=zAT t;have d:=@zlQ t s b (yY t);have e:(ju t s b).length<=72:=by
  unfold ju;split
  ·simp;omega
  ·omega
 unfold wG;split
 ·split
  ·simp;omega
  ·omega
 ·simp
theorem zzE{x:Tlk}{p:T}{nx:ByteArray}:(yH x p nx).2.1.length<=4611686018427387904:=by
 have h:∀ak n p s t,(kY ak n p s t).1.length<=73:=by
  intro ak n p s t;unfold kY;split
  ·unfold zbw;split
   ·split
    ·unfold zcv;split
     ·split
      ·exact zrB
      ·simp
     ·simp
    ·simp
   ·simp
  ·simp
 unfold yH;split
 ·exact xaD (h _ _ _ _ _) (by omega)
 ·split<;>simp
section
variable{S:AS}{k:Nat}{L:Loc}{K:Kd}{R:List (List AV)}
end
theorem zkw:∀{l:List Int} {x:Int},x∈yG l↔x∈l
 |[],x=>Iff.rfl
 |[a],x=>Iff.rfl
 |a::b::l,x=>by
  have ih:=@zkw (b::l) x;rw[yG];split
  ·rename_i e;rw[ih,e];simp
  ·rw[xaz,ih,xaz (a:=x) (b:=a)]
theorem zoq:∀{l:List Int},l.Pairwise (· <=·)->(yG l).Pairwise (· < ·)
 |[],_=>.nil
 |[a],_=>by rw[yG];simp
 |a::b::l,h=>by
  rw[List.pairwise_cons]at h;have ih:=zoq h.2;rw[yG];split
  ·exact ih
  ·rename_i e;rw[List.pairwise_cons];refine⟨fun x d=>?_,ih⟩;rw[zkw]at d;have f:=h.1 b (by simp);rcases xaz.1 d with rfl|d
   ·omega
   ·have:=(List.pairwise_cons.1 h.2).1 x d;omega
theorem zss:∀{l m:List Int},l.Pairwise (· < ·)->m.Pairwise (· < ·)->(∀x,x∈l↔x∈m)->l=m
 |[],[],_,_,_=>rfl
 |[],b::m,_,_,h=>by have:=(h b).2 (by simp);cases this
 |a::l,[],_,_,h=>by have:=(h a).1 (by simp);cases this
 |a::l,b::m,h1,h2,h=>by
  rw[List.pairwise_cons]at h1 h2;have f:a=b:=by
   have g:=(h a).1 (by simp);have j:=(h b).2 (by simp);rcases xaz.1 g with e|g
   ·exact e
   ·rcases xaz.1 j with e|j
    ·exact e.symm
    ·have:=h2.1 a g;have:=h1.1 b j;omega
  subst f;rw[zss h1.2 h2.2 fun x=>?_];constructor
  ·intro d;have n:=h1.1 x d;rcases xaz.1 ((h x).1 (by simp[d]))with e|e
   ·omega
   ·exact e
  ·intro d;have n:=h2.1 x d;rcases xaz.1 ((h x).2 (by simp[d]))with e|e
   ·omega
   ·exact e
theorem zHN{c:Int}{n:Nat}:(rng c n).Pairwise (· < ·):=by
 induction n with
 |zero=>simp[rng]
 |succ n ih=>
  rw[zmB,List.pairwise_append];refine⟨ih,by simp,fun x a y b=>?_⟩;obtain⟨d,e⟩:=zjA.1 a;rw[xaA.1 b];omega
theorem zAX{t:Tk}{s b:T}(w:t.right=true):t.hits s b=wG t s b:=by
 have h:=Tk.right_iff.1 w;have z:∀n x,x∈qe t s b n↔(t.counter<=x/\x<t.counter+(n:Int))/\b.same (ji s x)=true/\(x<=t.counter+t.look+t.sync\/x=t.pending):=by
  intro n x;unfold qe zfp;rw[List.mem_filter,zjA];simp
 have G:(yY t:Int)=min (max (t.counter+t.look+t.sync) t.pending) (t.counter+70)-t.counter+1:=by unfold yY;omega
 have p:(qe t s b (yY t)).Pairwise (· < ·):=by unfold qe;exact zHN.filter _
 have q:∀x,x∈ju t s b↔(x∈qe t s b (yY t)\/(x=t.pending/\t.counter+70<t.pending/\b.same (ji s t.pending)=true)):=by
  intro x;unfold ju;split
  ·rename_i d;rw[xaE,xaA];exact⟨fun h=>h.imp id fun e=>⟨e,d⟩,fun h=>h.imp id fun e=>e.1⟩
  ·rename_i d;exact⟨.inl,fun h=>h.elim id fun e=>absurd e.2 d⟩
 have r:(ju t s b).Pairwise (· < ·):=by
  unfold ju;split
  ·rename_i d;rw[List.pairwise_append];refine⟨p,by simp,fun x f y D=>?_⟩;rw[xaA.1 D];have:=((z _ x).1 f).1;omega
  ·exact p
 refine zss ?_ ?_ fun x=>?_
 ·unfold Tk.hits Tk.may;refine(zoq ?_).filter _;unfold js;have:=List.pairwise_mergeSort (le:=fun x y:Int=>decide (x<=y)) (fun a b c B C=>by simp at *;omega) (fun a b=>by simp;omega) (t.pending::rng t.counter ((t.look+t.sync).toNat+1));exact this.imp fun h=>by simpa using h
 ·unfold wG;rw[if_pos w];split
  ·rename_i d;rw[List.pairwise_cons];refine⟨fun x f=>?_,r⟩;rcases(q x).1 f with f|f
   ·have:=((z _ x).1 f).1;omega
   ·omega
  ·exact r
 ·have B:x∈t.hits s b↔(x=t.pending\/(t.counter<=x/\x<t.counter+(((t.look+t.sync).toNat+1:Nat):Int)))/\b.same (ji s x)=true:=by
   unfold Tk.hits Tk.may;rw[List.mem_filter,zkw];unfold js;rw[List.mem_mergeSort,xaz,zjA]
  have C:x∈wG t s b↔(x∈ju t s b\/(x=t.pending/\t.pending<t.counter/\b.same (ji s t.pending)=true)):=by
   unfold wG;rw[if_pos w];split
   ·rename_i d;rw[xaz];exact⟨fun h=>h.elim (fun e=>.inr ⟨e,d⟩) .inl,fun h=>h.elim .inr fun e=>.inl e.1⟩
   ·rename_i d;exact⟨.inl,fun h=>h.elim id fun e=>absurd e.2 d⟩
  rw[B,C,q,z];constructor
  ·rintro⟨f|f,g⟩
   ·subst f;by_cases E:t.counter+70<t.pending
    ·exact .inl (.inr ⟨rfl,E,g⟩)
    ·by_cases F:t.pending<t.counter
     ·exact .inr ⟨rfl,F,g⟩
     ·exact .inl (.inl ⟨⟨by omega,by omega⟩,g,.inr rfl⟩)
   ·exact .inl (.inl ⟨⟨by omega,by omega⟩,g,.inl (by omega)⟩)
  ·rintro((⟨m,A,j⟩|⟨m,A,j⟩)|⟨m,A,j⟩)
   ·refine⟨?_,A⟩;rcases j with j|j
    ·right;omega
    ·left;exact j
   ·exact⟨.inl m,by rw[m];exact j⟩
   ·exact⟨.inl m,by rw[m];exact j⟩
theorem zAV{ak nonce p seed:T}{t:Tk}:ziZ ak nonce p seed t=kY ak nonce p seed t:=by
 have e:∀l,zlP nonce seed t l=zcv nonce seed t l:=by
  intro l
  match l with
  |[a,b]=>
   show(if a.same nonce then(if t.right then(t.hits seed b,0)else([],0))else([],6))=(if a.same nonce then(wG t seed b,0)else([],6));cases d:t.right with
   |true=>rw[if_pos rfl,zAX d]
   |false=>
    have:wG t seed b=[]:=by unfold wG;rw[d];rfl
    rw[this];rfl
  |[]=>rfl
  |[_]=>rfl
  |_::_::_::_=>rfl
 have f:∀r,zi0 nonce seed t r=zbw nonce seed t r:=by
  intro r;unfold zi0 zbw;split
  ·cases zX vq 2 r.1 with
   |none=>rfl
   |some l=>exact e l
  ·rfl
 unfold ziZ kY;cases zX yg 1 p with
 |none=>rfl
 |some l=>
  match l with
  |[x]=>exact f _
  |[]=>rfl
  |_::_::_=>rfl
section
variable{S:AS}{kb:Nat}{v:AV}{l:List Us}
theorem zrx{l:List Us}{id:Nat}(e:S.heap kb=some (.rows 1 [[.arr id 15 0 l.length none]]))(f:S.heap id=some (.rows 15 (l.map Us.row)))(g:l.length<=1000){i:Nat}{u:Us}(b:l[i]?=some u)(h:∀(j:Nat) (v:Us),l[j]?=some v->j<i->v.name≠u.name):AtBm S kb id l i u:=by
 have a:i<l.length:=(xal.1 b).1;have m:l.set i u=l:=by
  apply List.ext_getElem?;intro j;by_cases d:i=j
  ·subst d;rw[List.getElem?_set_self a,b]
  ·rw[List.getElem?_set_ne d]
 exact⟨e,by rw[m];exact f,a,h,g⟩
theorem zAM{n:ByteArray}(a:S.heap kb=some (.rows 1 [[v]]))(g:GV S 15 v (l.map Us.row))(m:l.length<=1000)(e:∀u∈l,u.name≠n):call 345 [.ptr kb 0 0,.sc (.string n)] S=some (.sc (.int .i64 (-1)),S):=by
 rcases g with⟨_,rfl⟩|⟨id,rfl,p,_,_⟩
 ·exact vt a
 ·cases l with
  |nil=>
   rw[zi zj7 rfl (by simp) rfl];have b:∀d rg,ze (.ld none 1 false) d rg {S with ro:=S.n} [.ptr kb 0 0]=some (.arr id 15 0 0 none,none,{S with ro:=S.n}):=fun d rg=>by
    rw[zY (S:={S with ro:=S.n}) a];rfl
   simp only[zdl];simp[-zg,zhU];rw[jG];simp[-zg,zdm,b];simp
  |cons u l=>
   have q:=zrx (i:=0) (u:=u) (l:=u::l) (S:=S) (kb:=kb) (id:=id) (by simpa using a) p m rfl (fun j v _ h=>by omega);have:=zfC (n:=n) q (.inr fun w f=>e w (by
    rw[List.set_cons_zero]at f;exact f))
   rw[um,if_neg (e u (by simp))]at this;exact this
theorem zu6{l:List Us}{f:Bool}{i:Nat}{u:Us}(h:l[i]?=some u):pev (.iaddr 15) [.lst 15 f (l.map Us.row),.sc (.int .i64 (i:Int))]=some (.iptr u.row):=by
 rw[zaX (by omega)];simp[h]
theorem zsc{l:List Us}{f:Bool}:pev .lenL [.lst 15 f (l.map Us.row)]=some (.sc (.int .i64 (l.length:Nat))):=by simp[pev]
def znJ(S:AS)(l:List Us)(r:Option (AV×AS)):Prop:=∃S' ub,r=some (.tup [.ptr S.n 0 0,.i 0],S')/\(∀u,l[0]?=some u->jt S' S.n ub l 0 u)/\Chg S S' (fun _=>False) (qN S.n ub)
theorem zCx{f:Bool}(Q:∀u∈l,u.okk)(hd:∀(i j:Nat) (u v:Us),l[i]?=some u->l[j]?=some v->u.name=v.name->i=j)(T:l≠[])(hl:l.length<=32)(ag:S.ro<=S.n):∃S' ub,call 329 [.lst 15 f (l.map Us.row)] S=some (.tup [.ptr S.n 0 0,.i 0],S')/\(∀u,l[0]?=some u->jt S' S.n ub l 0 u)/\Chg S S' (fun _=>False) (qN S.n ub):=by
 have key:∀r,r=call 329 [.lst 15 f (l.map Us.row)] S->znJ S l r:=by
  intro r C;rw[z8 zxe (by simp) rfl]at C;rw[C];obtain⟨S1,m⟩:∃S1,S1=S.new (.rows 1 [[.lst 0 true []]]):=⟨_,rfl⟩;have p:=@zsc l f;have U:¬(32:Int)<(l.length:Int):=by omega
  simp only[f329];simp[zqf,vc,ze,p,U];rw[<-m];refine y8 (α:=Nat) (R:=fun _ r=>znJ S l r) (fun q e rg S'=>q<=l.length/\e 0=.lst 15 f (l.map Us.row)/\e 4=.ptr S.n 0 0/\e 5=.sc (.int .i64 (q:Nat))/\
   ∃v,S'.heap S.n=some (.rows 1 [[v]])/\GV S' 15 v ((l.take q).map Us.row)/\¬yO v S.n/\S'.ro=S.ro/\S.n<S'.n/\∀x,x<S.n->S'.heap x=S.heap x/\¬yO v x) (fun q=>l.length-q) ?_ 0 _ _ _ ?_
  rotate_left
  ·refine⟨by omega,by simp,by simp,by simp,.lst 0 true [],by rw[m];exact jX,.inl ⟨by simp,rfl⟩,?_,by rw[m];rfl,by rw[m];exact xay _,fun x A=>⟨by rw[m];exact if_neg (by omega),?_⟩⟩<;>(rintro⟨a,b,c,d,e⟩;cases e)
  intro kk V q e rg S' ⟨hi,W,O,h5,v,D,E,t,C,F,A⟩ ih;have G:S'.ro<=S'.n:=by omega
  by_cases hc:q<l.length
  ·obtain⟨u,B⟩:=yV hc;have H:(q:Int)<(l.length:Int):=by omega
   have w2:IntKind.i64.wrap ((q:Int)+1)=((q+1:Nat):Int):=w64 (by omega);have X:=@zu6 l f q u B;have e1:=zAM (n:=u.name) D E (by rw[List.length_take];omega) fun w hw Y=>by
    obtain⟨j,P⟩:=List.mem_iff_getElem?.1 hw;rw[xaq]at P;split at P
    ·rename_i ah;have:=hd j q w u P B Y;omega
    ·cases P
   have I:=fun S=>@zJq S u (Q u (xaj B));have r0:u.row.take 1=[.sc (.string u.name)]:=rfl;have Z:=@Us.row_cell u;have aa:=@Us.row_len u;have hk:=@Us.take u;obtain⟨v',S2,ha,s,c1,c2,J⟩:=E.app G (r:=u.row) (bytes:=192) (f:=true) (by rw[xaH,List.length_take];omega);have ab:S2.heap S.n=some (.rows 1 [[v]]):=(J S.n F t).1.trans D;have ac:=s.cells;have y:=s.cell;have ad:∀d rg,ze (.st none 1) d rg S2 [.ptr S.n 0 0,v']=some (.junk,none,S2.set S.n (some (.rows 1 [[v']]))):=fun d rg=>by
    simp only[ze,ab,ac];rw[if_pos ⟨by omega,by simp[y],rfl⟩];rfl
   have ae:∀d rg,ze (.ld none 1 false) d rg S' [.ptr S.n 0 0]=some (v,none,S'):=fun d rg=>by rw[zY D];rfl
   have af:=E.reg;have M:=s.reg;rw[<-List.map_singleton,<-List.map_append,show l.take q++[u]=l.take (q+1)by rw[xav,B];rfl]at s;generalize u.row=r at *;simp[zlf,W,O,h5,p,H,X,r0,Z,aa,hk,e1,I,ae,ha,ad,w2,af,M,zj];refine ih (q+1) _ _ _ (by omega) (fun _ h=>h) ⟨by omega,by simp[W],by simp[O],by simp,v',if_pos rfl,?_,(J S.n F t).2,c1.trans C,xan F c2,fun x g=>⟨?_,?_⟩⟩
   ·exact s.keep rfl (xad _) fun x _ ha=>if_neg fun e:x=S.n=>(J S.n F t).2 (by rw[<-e];exact ha)
   ·exact(if_neg (by omega)).trans ((J x (by omega) (A x g).2).1.trans (A x g).1)
   ·exact(J x (by omega) (A x g).2).2
  ·have hq:q=l.length:=by omega
   subst hq;rw[xax]at E;have H:¬(l.length:Int)<(l.length:Int):=by omega
   simp[zlf,W,O,h5,p];rw[V];simp[O];rcases E with⟨z,_⟩|⟨id,rfl,h2,h3,h6⟩
   ·simp at z;exact absurd z T
   ·rw[xaH]at D;have N:S.n≠id:=fun e=>t ⟨_,_,_,_,by rw[e]⟩;refine⟨_,id,rfl,fun u B=>⟨zrx D h2 (by omega) B (fun j v _ h=>by omega),by omega,h3,F,h6,N⟩,C,by omega,fun x g _=>⟨(A x g).1,?_⟩⟩;rintro(rfl|rfl)
    ·omega
    ·exact(A _ g).2 ⟨_,_,_,_,rfl⟩
 exact key _ rfl
end
structure qT(us:List Us)(i:Nat)(S:AS)(k kb ub wid:Nat)(iv:AV)(K:Kd):Prop where
 hh:S.heap k=some (.rows 11 [K.row kb wid iv])
 b:AtBm S kb ub us i K.u
section
variable{us:List Us}{i:Nat}{S:AS}{k kb ub wid:Nat}{iv:AV}{K:Kd}
theorem qT.ro(h:qT us i S k kb ub wid iv K)(r:Nat):qT us i {S with ro:=r} k kb ub wid iv K:=⟨h.hh,h.b.ro r⟩
theorem qT.key(h:qT us i S k kb ub wid iv K)(d:Option Nat)(rg:Nat->Option (List AV)):ze (.ld none 3 true) d rg S [.ptr k 0 0]=some (.agg K.key.cells,none,S):=by rw[zY h.hh,<-tri];rfl
theorem qT.cookies(h:qT us i S k kb ub wid iv K)(d:Option Nat)(rg:Nat->Option (List AV)):ze (.ld none 3 true) d rg S [.ptr k 0 3]=some (.agg K.cookies.cells,none,S):=by rw[zY h.hh,<-tri];rfl
theorem qT.users(h:qT us i S k kb ub wid iv K)(d:Option Nat)(rg:Nat->Option (List AV)):ze (.ld none 1 false) d rg S [.ptr k 0 6]=some (.ptr kb 0 0,none,S):=by rw[zY h.hh];rfl
theorem qT.cch(h:qT us i S k kb ub wid iv K)(d:Option Nat)(rg:Nat->Option (List AV)):ze (.ld none 1 false) d rg S [.ptr k 0 8]=some (.ptr wid 0 0,none,S):=by rw[zY h.hh];rfl
theorem qT.nn(h:qT us i S k kb ub wid iv K)(d:Option Nat)(rg:Nat->Option (List AV)):ze (.ld none 1 false) d rg S [.ptr k 0 9]=some (.sc (.int .i64 K.n),none,S):=by rw[zY h.hh];rfl
theorem qT.issued(h:qT us i S k kb ub wid iv K)(d:Option Nat)(rg:Nat->Option (List AV)):ze (.ld none 1 false) d rg S [.ptr k 0 10]=some (iv,none,S):=by rw[zY h.hh];rfl
end
def ku(t:T):Option ByteArray:=(qY t).bind fun q=>(jL q.1).map (·.1)
section
variable{us:List Us}{i:Nat}{S:AS}{k kb ub wid:Nat}{iv:AV}{K:Kd}
theorem zCe(h:qT us i S k kb ub wid iv K){t:T}{now:Int}(ht:t.lo)(hc:K.cookies.lo)(hl:K.u.set.length<=1000)(ad:∀cl,ku t=some cl->vD us i K.u cl):call 239 [.ptr k 0 0,.agg t.cells,.sc (.int .i64 now)] S=some (zd5 (K.opens t now),S):=by
 rw[zi zwj rfl (by simp) rfl];have h':=h.ro S.n;have p:=fun S=>@s95 S t;unfold Kd.opens;cases ha:qY t with
 |none=>
  rw[ha]at p;have e:=fun S=>@s93 S tZ;have hb:jL tZ=none:=rfl;rw[hb]at e;simp[vw,vY,p,y9,e,yI];rfl
 |some r=>
  rw[ha]at p;obtain⟨body,armor,sealed⟩:=r;obtain⟨m1,m2,m3⟩:=zkd ha;have l2:=ht.kid m2;have l3:=ht.kid m3;have e:=fun S=>@s93 S body;show _=some (zd5 (K.opB t body armor sealed now (jL body)),S);cases hb:jL body with
  |none=>
   rw[hb]at e;simp[vw,vY,p,y9,e,yI];rfl
  |some q=>
   rw[hb]at e;obtain⟨client,nonce⟩:=q;show _=some (zd5 (K.opA t body sealed client nonce now (qI K.key armor)),S);have f:=fun S=>@zJa S K.key armor l2.bb;have g:=h'.key;unfold Kd.opA;generalize qI K.key armor=a at *;by_cases C:a.2=0
   ·rw[if_pos C];have m:=fun S=>@zJb S a.1 body sealed l3.bb;have ae:=zmz (k:=a.1) (b:=body) l3;unfold Kd.opR;generalize vP a.1 body sealed=r at *;by_cases E:r.2.2=0
    ·rw[if_pos E];have aa:vD us i K.u client:=ad client (by unfold ku;rw[ha];show(jL body).map _=_;rw[hb];rfl);have j:=zst (n:=client) h'.b aa;have z:=h'.users;by_cases hn:K.u.name=client
     ·rw[if_pos hn]at j ⊢;have w:=fun S=>@s84 S r.2.1;have s:=zCf (n:=client) h'.b aa;rw[hn]at s;have H:=@Us.row_cell K.u;have I:=@Us.row_len K.u;have J:=@Us.take K.u;have r4:(K.u.row.drop 4).take 1=[zk K.u.set]:=rfl;have A:=@zy8 a.1 body K.u ⟨client,nonce,[],zw,0⟩ (.lst 0 true []) now rfl;have xf:=fun S b d=>@Tlk.frz0 S ⟨a.1,body,⟨client,nonce,[],zw,0⟩,K.u,now⟩ b d rfl;have xp:=@Tlk.pure ⟨a.1,body,⟨client,nonce,[],zw,0⟩,K.u,now⟩;have xs:∀c:Ck,setCells ((Tlk.mk a.1 body ⟨client,nonce,[],zw,0⟩ K.u now).cells (.lst 0 true [])) 6 c.cells=(Tlk.mk a.1 body c K.u now).cells (zk c.done):=fun c=>rfl;have xc:((Tlk.mk a.1 body ⟨client,nonce,[],zw,0⟩ K.u now).cells (.lst 0 true [])).all AV.isCell=true:=rfl;have N:((Tlk.mk a.1 body ⟨client,nonce,[],zw,0⟩ K.u now).cells (.lst 0 true [])).length=29:=rfl;have O:List.take 29 ((Tlk.mk a.1 body ⟨client,nonce,[],zw,0⟩ K.u now).cells (.lst 0 true []))=((Tlk.mk a.1 body ⟨client,nonce,[],zw,0⟩ K.u now).cells (.lst 0 true [])):=rfl;have opF:∀(x:Tlk),K.opF t r.1 x=if 5<=K.u.fails then(qS,t,7)else(x,r.1,0):=fun x=>rfl
      cases hi:yR r.2.1 with
      |true=>
       rw[hi]at w;rw[if_pos rfl,opF];have F:zd5 (⟨a.1,body,⟨client,nonce,[],zw,0⟩,K.u,now⟩,r.1,0)=.tup [.agg ((Tlk.mk a.1 body ⟨client,nonce,[],zw,0⟩ K.u now).cells (zk (⟨client,nonce,[],zw,0⟩:Ck).done)),.agg r.1.cells,.i 0]:=rfl;generalize(Tlk.mk a.1 body ⟨client,nonce,[],zw,0⟩ K.u now).cells (.lst 0 true [])=X at *;generalize(Tlk.mk a.1 body ⟨client,nonce,[],zw,0⟩ K.u now).cells (zk _)=Y at *;generalize K.u.row=R at *;by_cases M:5<=K.u.fails
       ·rw[if_pos M];simp[vw,vY,p,y9,e,yI,g,f,zt,C,m,jm,E,z,j,w,s,H,I,J,-jl,zbg,zar,A,xc,N,O,M];rfl
       ·rw[if_neg M];simp[vw,vY,p,y9,e,yI,g,f,zt,C,m,jm,E,z,j,w,s,H,I,J,-jl,zbg,zar,A,xc,N,O,M,xf,xp,F]
      |false=>
       rw[hi]at w;rw[if_neg (by simp)];have y:=fun S=>@zt2 S K.cookies r.2.1 now hc ae.1;have D:=h'.cookies;unfold Kd.opC;simp only;generalize jg K.cookies r.2.1 now=o at *;by_cases P:o.2=0
       ·rw[if_pos P];have B:=fun S=>@zJc S o.1.done K.u.set (by omega);have o0:o.1.cells.take 1=[.sc (.string o.1.client)]:=rfl;have o1:o.1.cells.tail.take 1=[.sc (.string o.1.nonce)]:=rfl;have G:(o.1.cells.drop 1).take 1=[.sc (.string o.1.nonce)]:=rfl;have o2:(o.1.cells.drop 2).take 1=[zk o.1.done]:=rfl;have Q:o.1.cells.take 7=o.1.cells:=rfl;have U:o.1.cells.all AV.isCell=true:=rfl;have V:o.1.cells.length=7:=rfl;by_cases W:o.1.client=client
        ·by_cases Z:o.1.nonce=nonce
         ·cases ab:jK o.1.done K.u.set with
          |true=>
           rw[ab]at B;rw[if_pos ⟨W,Z,rfl⟩,opF];have xs:=xs o.1;have ac:List.take 6 ((Tlk.mk a.1 body ⟨client,nonce,[],zw,0⟩ K.u now).cells (.lst 0 true []))++(o.1.cells++List.drop 13 ((Tlk.mk a.1 body ⟨client,nonce,[],zw,0⟩ K.u now).cells (.lst 0 true [])))=(Tlk.mk a.1 body o.1 K.u now).cells (zk o.1.done):=rfl;have yf:=fun S b d=>@Tlk.frz S ⟨a.1,body,o.1,K.u,now⟩ b d;have yp:=@Tlk.pure ⟨a.1,body,o.1,K.u,now⟩;have yt:List.take 29 ((Tlk.mk a.1 body o.1 K.u now).cells (zk o.1.done))=((Tlk.mk a.1 body o.1 K.u now).cells (zk o.1.done)):=rfl;have yc:((Tlk.mk a.1 body o.1 K.u now).cells (zk o.1.done)).all AV.isCell=true:=rfl;have yl:((Tlk.mk a.1 body o.1 K.u now).cells (zk o.1.done)).length=29:=rfl;have F:zd5 (⟨a.1,body,o.1,K.u,now⟩,r.1,0)=.tup [.agg ((Tlk.mk a.1 body o.1 K.u now).cells (zk o.1.done)),.agg r.1.cells,.i 0]:=rfl;simp only at yf yp;generalize(Tlk.mk a.1 body ⟨client,nonce,[],zw,0⟩ K.u now).cells (.lst 0 true [])=X at *;generalize(Tlk.mk a.1 body o.1 K.u now).cells (zk o.1.done)=Y at *;generalize K.u.row=R at *;generalize o.1.cells=OC at *;by_cases M:5<=K.u.fails
           ·rw[if_pos M];simp[vw,vY,p,y9,e,yI,g,f,zt,C,m,jm,E,z,j,w,s,H,I,J,-jl,zbg,zar,A,xc,N,O,M,D,y,P,o0,o1,G,o2,Q,U,V,W,Z,r4,B,xs,ac];rfl
           ·rw[if_neg M];simp[vw,vY,p,y9,e,yI,g,f,zt,C,m,jm,E,z,j,w,s,H,I,J,-jl,zbg,zar,A,xc,N,O,M,D,y,P,o0,o1,G,o2,Q,U,V,W,Z,r4,B,xs,ac,yf,yp,yt,yc,yl,F]
          |false=>
           rw[ab]at B;rw[if_neg (fun h=>by cases h.2.2)];generalize(Tlk.mk a.1 body ⟨client,nonce,[],zw,0⟩ K.u now).cells (.lst 0 true [])=X at *;generalize K.u.row=R at *;generalize o.1.cells=OC at *;simp[vw,vY,p,y9,e,yI,g,f,zt,C,m,jm,E,z,j,w,s,H,I,J,-jl,zbg,zar,A,xc,N,O,D,y,P,o0,o1,G,o2,Q,U,V,W,Z,r4,B];rfl
         ·rw[if_neg (fun h=>Z h.2.1)];generalize(Tlk.mk a.1 body ⟨client,nonce,[],zw,0⟩ K.u now).cells (.lst 0 true [])=X at *;generalize K.u.row=R at *;generalize o.1.cells=OC at *;simp[vw,vY,p,y9,e,yI,g,f,zt,C,m,jm,E,z,j,w,s,H,I,J,-jl,zbg,zar,A,xc,N,O,D,y,P,o0,o1,G,o2,Q,U,V,W,Z];rfl
        ·rw[if_neg (fun h=>W h.1)];generalize(Tlk.mk a.1 body ⟨client,nonce,[],zw,0⟩ K.u now).cells (.lst 0 true [])=X at *;generalize K.u.row=R at *;generalize o.1.cells=OC at *;simp[vw,vY,p,y9,e,yI,g,f,zt,C,m,jm,E,z,j,w,s,H,I,J,-jl,zbg,zar,A,xc,N,O,D,y,P,o0,o1,G,o2,Q,U,V,W];rfl
       ·rw[if_neg P];have Q:o.1.cells.take 7=o.1.cells:=rfl;have U:o.1.cells.all AV.isCell=true:=rfl;have V:o.1.cells.length=7:=rfl;generalize(Tlk.mk a.1 body ⟨client,nonce,[],zw,0⟩ K.u now).cells (.lst 0 true [])=X at *;generalize K.u.row=R at *;generalize o.1.cells=OC at *;simp[vw,vY,p,y9,e,yI,g,f,zt,C,m,jm,E,z,j,w,s,H,I,J,-jl,zbg,zar,A,xc,N,O,D,y,P,Q,U,V];rfl
     ·rw[if_neg hn]at j ⊢;have H:=@Us.row_cell zU;have I:=@Us.row_len zU;have J:=@Us.take zU;generalize zU.row=R at *;simp[vw,vY,p,y9,e,yI,g,f,zt,C,m,jm,E,z,j,H,I,J];rfl
    ·rw[if_neg E];simp[vw,vY,p,y9,e,yI,g,f,zt,C,m,jm,E];rfl
   ·rw[if_neg C];simp[vw,vY,p,y9,e,yI,g,f,zt,C];rfl
end
structure yE(us:List Us)(i:Nat)(S:AS)(k:Nat)(L:Loc)(K:Kd)(R:List (List AV)):Prop where
 hh:S.heap k=some (.rows 11 [K.row L.kb L.wid L.iv])
 b:jt S L.kb L.ub us i K.u
 c:Rf.IsRef S L.wid K.room K.cache L.ids L.cv
 gv:GV S 6 L.iv R
 ro:S.ro<=k
 lt:k<S.n
 d1:∀x,qN L.kb L.ub x->x≠k/\¬Rf.ownR L.wid L.ids x/\¬yO L.iv x
 d2:∀x,Rf.ownR L.wid L.ids x->x≠k/\¬yO L.iv x
 d3:¬yO L.iv k
section
variable{us:List Us}{i:Nat}{S S':AS}{k:Nat}{L:Loc}{K:Kd}{R:List (List AV)}
theorem yE.hS(h:yE us i S k L K R):S.ro<=S.n:=by have:=h.ro;have:=h.lt;omega
theorem yE.at_(h:yE us i S k L K R):qT us i S k L.kb L.ub L.wid L.iv K:=⟨h.hh,h.b.toAtBm⟩
theorem yE.own_lt(h:yE us i S k L K R){x:Nat}(a:yB k L x):x<S.n:=by
 rcases a with rfl|a|a|a
 ·exact h.lt
 ·exact h.b.lts a
 ·exact h.c.lts a
 ·exact(h.gv.lt a).1
theorem yE.keep(h:yE us i S k L K R)(e:S'.ro=S.ro)(f:S.n<=S'.n)(g:∀x,x<S.n->yB k L x->S'.heap x=S.heap x):yE us i S' k L K R:=
 ⟨(g k h.lt (.inl rfl)).trans h.hh,h.b.keep e f fun x a d=>g x a (.inr (.inl d)),h.c.keep e f fun x a d=>g x a (.inr (.inr (.inl d))),h.gv.keep e f fun x a d=>g x a (.inr (.inr (.inr d))),
   by rw[e];exact h.ro,xan h.lt f,h.d1,h.d2,h.d3⟩
theorem yE.upB(h:yE us i S k L K R){u':Us}(j:jt S' L.kb L.ub us i u')(m:Chg S S' (qN L.kb L.ub) (qN L.kb L.ub)):yE us i S' k L {K with u:=u'} R/\Chg S S' (yB k L) (yB k L):=by
 obtain⟨a,b,d⟩:=m;refine⟨⟨(d k h.lt fun e=>(h.d1 k e).1 rfl).1.trans h.hh,j,h.c.keep a b fun x f g=>(d x f fun e=>(h.d1 x e).2.1 g).1,h.gv.keep a b fun x f g=>(d x f fun e=>(h.d1 x e).2.2 g).1,
  by rw[a];exact h.ro,xan h.lt b,h.d1,h.d2,h.d3⟩,?_⟩
 exact Chg.big ⟨a,b,d⟩ (fun x e=>.inr (.inl e)) fun x e=>.inr e
theorem yE.upC(h:yE us i S k L K R){a:List (ByteArray×Int)}{d:List Nat}{g:AV}(s:Rf.IsRef S' L.wid K.room a d g)(t:Chg S S' (Rf.ownR L.wid L.ids) (Rf.ownR L.wid d)):
 yE us i S' k {L with ids:=d,cv:=g} {K with cache:=a} R/\Chg S S' (yB k L) (yB k {L with ids:=d,cv:=g}):=by
 obtain⟨m,n,j⟩:=t;have r:¬Rf.ownR L.wid L.ids k:=fun e=>(h.d2 k e).1 rfl;refine⟨⟨(j k h.lt r).1.trans h.hh,h.b.keep m n fun x f p=>(j x f (h.d1 x p).2.1).1,s,h.gv.keep m n fun x f p=>(j x f fun e=>(h.d2 x e).2 p).1,
  by rw[m];exact h.ro,xan h.lt n,fun x f=>⟨(h.d1 x f).1,(j x (h.b.lts f) (h.d1 x f).2.1).2,(h.d1 x f).2.2⟩,fun x f=>⟨fun e=>(j k h.lt r).2 (e▸f),fun e=>?_⟩,h.d3⟩,?_⟩
 ·have q:=(h.gv.lt e).1;exact(j x q fun w=>(h.d2 x w).2 e).2 f
 ·refine Chg.big ⟨m,n,j⟩ (fun x e=>.inr (.inr (.inl e))) fun x e=>?_;rcases e with e|e|e|e
  ·exact .inr (.inl e)
  ·exact .inr (.inr (.inl e))
  ·exact .inl e
  ·exact .inr (.inr (.inr (.inr e)))
theorem yE.st(h:yE us i S k L K R){col:Nat}{v:AV}{K':Kd}{iv':AV}(b:v.cells=[v])(e:v.isCell=true)(f:setCells (K.row L.kb L.wid L.iv) col [v]=K'.row L.kb L.wid iv')(a:col+1<=11)(d:Option Nat)(rg:Nat->Option (List AV)):
 ze (.st none 1) d rg S [.ptr k 0 col,v]=some (.junk,none,S.set k (some (.rows 11 [K'.row L.kb L.wid iv']))):=by
 simp only[ze,h.hh,b];rw[if_pos ⟨h.ro,by simp[e],rfl⟩];simp only[xas,xae];rw[if_pos (show col+1<=(K.row L.kb L.wid L.iv).length from a),f];rfl
theorem yE.upK(h:yE us i S k L K R){K':Kd}(g:K'.u=K.u)(j:K'.cache=K.cache)(d:K'.room=K.room):yE us i (S.set k (some (.rows 11 [K'.row L.kb L.wid L.iv]))) k L K' R/\Chg S (S.set k (some (.rows 11 [K'.row L.kb L.wid L.iv]))) (yB k L) (yB k L):=by
 refine⟨⟨if_pos rfl,by rw[g];exact h.b.keep rfl (xad _) fun x _ a=>if_neg (h.d1 x a).1,by rw[j,d];exact h.c.keep rfl (xad _) fun x _ a=>if_neg (h.d2 x a).1,h.gv.keep rfl (xad _) fun x _ a=>if_neg fun e:x=k=>h.d3 (e▸a),
  h.ro,h.lt,h.d1,h.d2,h.d3⟩,rfl,xad _,fun x _ f=>⟨if_neg fun e=>f (.inl e),f⟩⟩
theorem yE.issue(h:yE us i S k L K R){r:List AV}{f:Bool}(C:R.length<=1000):∃g j S',(∀d rg,ze (.append 6 104) d rg S [L.iv,.lst 6 f [r]]=some (g,none,j))/\g.isReg=false/\(∀d rg,ze (.st none 1) d rg j [.ptr k 0 10,g]=some (.junk,none,S'))/\
 yE us i S' k {L with iv:=g} K (R++[r])/\Chg S S' (yB k L) (yB k {L with iv:=g}):=by
 obtain⟨g,j,A,s,q,t,m⟩:=h.gv.app h.hS (r:=r) (bytes:=104) (f:=f) (by omega);have w:=m k h.lt h.d3;have y:j.heap k=some (.rows 11 [K.row L.kb L.wid L.iv]):=w.1.trans h.hh;have B:∀x,qN L.kb L.ub x->x≠k/\¬Rf.ownR L.wid L.ids x/\¬yO g x:=fun x a=>⟨(h.d1 x a).1,(h.d1 x a).2.1,(m x (h.b.lts a) (h.d1 x a).2.2).2⟩;have z:∀x,Rf.ownR L.wid L.ids x->x≠k/\¬yO g x:=fun x a=>⟨(h.d2 x a).1,(m x (h.c.lts a) (h.d2 x a).2).2⟩;refine⟨g,j,j.set k (some (.rows 11 [K.row L.kb L.wid g])),A,s.reg,fun d rg=>?_,⟨if_pos rfl,h.b.keep q t fun x a n=>(if_neg (h.d1 x n).1).trans (m x a (h.d1 x n).2.2).1,h.c.keep q t fun x a n=>(if_neg (h.d2 x n).1).trans (m x a (h.d2 x n).2).1,
  s.keep rfl (xad _) fun x _ n=>if_neg fun e:x=k=>w.2 (e▸n),by rw[show(j.set k _).ro=j.ro from rfl,q];exact h.ro,xan h.lt t,B,z,w.2⟩,q,t,fun x a p=>⟨?_,?_⟩⟩
 ·simp only[ze,y,s.cells];rw[if_pos ⟨by rw[q];exact h.ro,by simp[s.cell],rfl⟩];rfl
 ·exact(if_neg fun e=>p (.inl e)).trans (m x a fun e=>p (.inr (.inr (.inr e)))).1
 ·rintro(e|e|e|e)
  ·exact p (.inl e)
  ·exact p (.inr (.inl e))
  ·exact p (.inr (.inr (.inl e)))
  ·exact(m x a fun e=>p (.inr (.inr (.inr e)))).2 e
theorem zma(h:yE us i S k L K R)(p:0<=K.n/\K.n<4611686018427387904):∃S',call 342 [.ptr k 0 0] S=some (.agg (zQ (K.n+1)).cells,S')/\yE us i S' k L {K with n:=K.n+1} R/\Chg S S' (yB k L) (yB k L):=by
 rw[z8 zxp (by simp) rfl];have f:IntKind.i64.wrap (K.n+1)=K.n+1:=w64 (by omega);have b:=h.st (col:=9) (v:=.sc (.int .i64 (K.n+1))) (K':={K with n:=K.n+1}) (iv':=L.iv) rfl rfl rfl (by omega);obtain⟨e,g⟩:=h.upK (K':={K with n:=K.n+1}) rfl rfl rfl;generalize S.set k _=S' at *;have d:=e.at_.nn;have j:=vN (n:=K.n+1) (by omega) (by omega);have a:=fun S=>@zbH S (K.n+1) (by omega) (by omega);have m:pev (.bin .add) [.s ⟨#[107,100,99,32]⟩,.sc (.string (zE (K.n+1)))]=some (.sc (.string (⟨#[107,100,99,32]⟩++zE (K.n+1)))):=yz (by show 4+_<=_;omega);refine⟨S',?_,e,g⟩;simp[zhT,zqk,h.at_.nn,f,b,d,a,m];rfl
end
end Abs
