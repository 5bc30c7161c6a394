/- The seal, of a cookie in memory. -/
import Derived.Test.YthcobbfffjfboaaGreatDoorG2
set_option linter.unusedVariables false
set_option linter.unusedSimpArgs false
set_option linter.unusedSectionVars false
namespace Abs
open Go
structure kG (S:AS) (x:AV) (l:List ByteArray):Prop where
 reg:x.isReg=false
 len:pev .lenL [x.nrm]=some (.sc (.int .i64 l.length))
 nn:x.nrm.nrm=x.nrm
 rows:∀S':AS,(∀id,id < S.n -> S'.heap id=S.heap id) -> zv 1 S' x.nrm=some (zS l)
section
variable {S:AS}
theorem kG.nrm {x:AV} {l:List ByteArray} (h:kG S x l):kG S x.nrm l:=
 ⟨by rw [zhB];exact h.reg,by rw [h.nn];exact h.len,by rw [h.nn,h.nn],fun S' h2=>by rw [h.nn];exact h.rows S' h2⟩
theorem kG.cell {y:AV} {l:List ByteArray} (h:kG S y l) (hn:y.nrm=y):y.isCell=true:=by
 have:=h.rows S fun _ _=>rfl;rw [hn]at this;cases y<;>first|rfl|(simp [zv]at this)
theorem zCo {l:List ByteArray}:kG S (zB l) l:=⟨rfl,by simp,by simp,fun S' _=>by rw [zo1];exact zqz S' l⟩
theorem zEp {id off n:Nat} {lim:Option Nat} {l:List ByteArray} (h:S.slice 0 id 1 off n=some (zS l)) (hid:id < S.n) (hn:n=l.length):kG S (.arr id 1 off n lim) l:=by
 refine ⟨rfl,by subst hn;rfl,rfl,fun S' h2=>?_⟩;show zv 1 S' (.arr id 1 off n lim)=_;simp only [zv,if_true];unfold AS.slice at h ⊢;rw [h2 id hid];exact h
theorem kG.at {x:AV} {l:List ByteArray} (h:kG S x l) {i:Nat} {t:ByteArray} (ht:l[i]?=some t):∃p,pev (.iaddr 1) [x.nrm,.sc (.int .i64 (i:Int))]=some p /\ p.isReg=false /\
 ∀S':AS,(∀id,id < S.n -> S'.heap id=S.heap id) -> ∀d rg,za (.ld none 1 false) d rg S' [p]=some (.sc (.string t),none,S'):=by
 have hlen:i < l.length:=(List.getElem?_eq_some_iff.1 ht).1;have hr:=h.rows;have hl:=h.len;generalize x.nrm=y at hr hl ⊢;have h0:=hr S fun _ _=>rfl;cases y with
 |lst z f xs=>
  simp only [zv]at h0;split at h0
  ·rename_i hz;cases h0;have hne:(zS l).isEmpty=false:=by cases l with
    |nil=>simp at hlen
    |cons _ _=>rfl
   rw [hne]at hz;have hz:z=1:=by simpa using hz
   subst hz;exact ⟨.iptr [.sc (.string t)],by simp [pev,zS,ht],rfl,fun S' _ d rg=>by simp⟩
  ·cases h0
 |arr id z off n lim=>
  simp only [zv]at h0;split at h0
  ·rename_i hz;subst hz;have hn:n=l.length:=by
    have hl:(n:Int)=(l.length:Int):=by simpa using hl
    omega
   refine ⟨.ptr id (off+i) 0,by simp [pev];omega,rfl,fun S' h2 d rg=>?_⟩;have h1:=hr S' h2;simp only [zv,if_true]at h1;unfold AS.slice at h1;simp only [Nat.zero_le,if_true]at h1;split at h1
   ·rename_i z' rs hh;split at h1
    ·rename_i hc;simp only [Option.some.injEq]at h1;have:((rs.drop off).take n)[i]?=some [.sc (.string t)]:=by rw [h1];simp [zS,ht]
     rw [List.getElem?_take,if_pos (by omega),List.getElem?_drop]at this;rw [yg hh,this];simp
    ·cases h1
   ·cases h1
  ·cases h0
 |_=>simp [zv]at h0
def ckX (c:Ck) (x:AV):List AV:=[.sc (.string c.client),.sc (.string c.nonce),x,.sc (.int .i64 c.secret.kind),.sc (.string c.secret.name),zf c.secret.kids,.sc (.int .i64 c.upto)]
section
variable (c:Ck) (x:AV)
@[simp] theorem zL8:(ckX c x).length=7:=rfl
theorem zBZ (h:x.isCell=true):(ckX c x).all AV.isCell=true:=by simp [ckX,h]
@[simp] theorem zKv:(ckX c x).take 1=[.sc (.string c.client)]:=rfl
@[simp] theorem zKI:((ckX c x).drop 1).take 1=[.sc (.string c.nonce)]:=rfl
@[simp] theorem zLa:(ckX c x).tail.take 1=[.sc (.string c.nonce)]:=rfl
@[simp] theorem zLQ:((ckX c x).drop 2).take 1=[x]:=rfl
@[simp] theorem zMM:((ckX c x).drop 3).take 3=c.secret.cells:=by rw [zu];rfl
@[simp] theorem zKB:((ckX c x).drop 6).take 1=[.sc (.int .i64 c.upto)]:=rfl
@[simp] theorem zLl:yU (ckX c x)=ckX c x.nrm:=by simp [ckX,zft]
end
end
def wL (s l:ByteArray):ByteArray:=(jI s l).getD s
section
variable {S:AS}
def zfb (s:ByteArray):Int:=match Lib.atoiAll s.data.toList with| .ok v=>v| .range=>Lib.atoiSat s.data.toList|_=>0
def zis (l:List T):List ByteArray:=l.map fun k=>wL k.name ⟨#[100]⟩
end
def vS (k1 k2 k3 k4 k5:T):Ck:=⟨wL k1.name ⟨#[99]⟩,wL k2.name ⟨#[110]⟩,zis k3.kids,k4,zfb (wL k5.name ⟨#[117]⟩)⟩
def qI (key t:T) (now:Int):Ck×Int:=
 if t.right && decide (t.kind=4) then
  match t.kids with
  |[k0,b]=>if k0.same key then
   (match b.kids with
   |[_,k1,k2,k3,k4,k5]=>if (yC key (vS k1 k2 k3 k4 k5)).same t then (if (vS k1 k2 k3 k4 k5).upto < now then (j9,5) else (vS k1 k2 k3 k4 k5,0)) else (j9,2)
   |_=>(j9,2)) else (j9,4)
  |_=>(j9,2)
 else (j9,2)
theorem zq4 {s p r:ByteArray} (h:jI s p=some r):r.size <=s.size:=by have:=zkA h;omega
theorem zGJ {s:ByteArray}:inI (zfb s):=by
 unfold zfb;cases h:Lib.atoiAll s.data.toList with
 |ok v=>exact zpR h
 |range=>show inI (Lib.atoiSat _);unfold Lib.atoiSat inI;split<;>omega
 |_=>exact zpT
section
variable {S:AS}
theorem T.enc_kids {t:T} (h:t.rshp=true) (h4:t.kind=4):∃a b,t.kids=[a,b]:=by
 rw [t.rshp_def,Bool.and_eq_true]at h;obtain ⟨_,_,h3⟩:=T.one_iff.1 h.1;have hk:kdn t.kind=2:=by rw [h4];rfl
 have:t.kids.length=2:=by omega
 match hl:t.kids,this with
 |[a,b],_=>exact ⟨a,b,rfl⟩
theorem zaM {S S':AS} {n:Int}:zW S (some (.tup [.agg zC,.sc (.int .i64 n)],S'))=some (.tup [.agg j9.cells,.sc (.int .i64 n)],S):=by
 simp [j9,Ck.cells,qM,T.kind,T.name,T.kids,zB,zf,lstN,zS,AV.pure]
end
theorem zhC {p r:ByteArray}:wL (p++r) p=r:=by unfold wL;rw [zmW];rfl
theorem zHI {n:Int} (h:inI n):zfb (zq n)=n:=by
 unfold zfb;rw [zaB,zeb h.1 h.2]
theorem zFb {l:List ByteArray}:zis (y0 l)=l:=by
 unfold zis y0;rw [List.map_map];have:((fun k:T=>wL k.name ⟨#[100]⟩)∘fun s=>zJ (⟨#[100]⟩++s))=id:=by
  funext s;exact zhC
 rw [this,List.map_id]
theorem zoD {c:Ck} (h:inI c.upto):vS (zJ (⟨#[99]⟩++c.client)) (zJ (⟨#[110]⟩++c.nonce)) (zO (y0 c.done)) c.secret (zJ (⟨#[117]⟩++zq c.upto))=c:=by
 unfold vS;have e1:wL (zJ (⟨#[99]⟩++c.client)).name ⟨#[99]⟩=c.client:=zhC;have e2:wL (zJ (⟨#[110]⟩++c.nonce)).name ⟨#[110]⟩=c.nonce:=zhC;have e3:wL (zJ (⟨#[117]⟩++zq c.upto)).name ⟨#[117]⟩=zq c.upto:=zhC;have e4:zis (zO (y0 c.done)).kids=c.done:=zFb;rw [e1,e2,e3,e4,zHI h]
theorem zeB {t:T}:t.fit=true↔t.rshp=true /\ t.ord=true /\ t.dp <=57:=by
 unfold T.fit T.right;simp only [Bool.and_eq_true,decide_eq_true_eq];constructor
 ·rintro ⟨⟨⟨a,b⟩,c⟩,d⟩;exact ⟨a,c,d⟩
 ·rintro ⟨a,c,d⟩;exact ⟨⟨⟨a,by omega⟩,c⟩,d⟩
theorem kT {x y:ByteArray} (h:x.size≠0):x++y≠⟨#[]⟩:=by
 intro e;have:=congrArg ByteArray.size e;rw [ByteArray.size_append]at this;have h0:(⟨#[]⟩:ByteArray).size=0:=rfl;omega
theorem zfj {s:ByteArray} (h:s≠⟨#[]⟩):(zJ s).rshp=true:=by
 unfold zJ;rw [T.rshp];simp [T.one,knd,nmd,kdn,T.kind,T.name,T.kids,vo,h]
theorem zsm {l:List T} (h:∀t∈l,t.rshp=true):(zO l).rshp=true:=by
 unfold zO;rw [T.rshp,zbR.2 h];simp [T.one,knd,nmd,kdn,T.kind,T.name,T.kids]
theorem zm2 {l:List T} (h:∀t∈l,t.ord=true):(zO l).ord=true:=by
 unfold zO;rw [T.ord,zcR,List.all_eq_true.2 h];rfl
theorem zDH {a b:T} (ha:a.rshp=true) (hb:b.rshp=true):(jm a b).rshp=true:=by
 unfold jm;rw [T.rshp];simp [T.one,knd,nmd,kdn,T.kind,T.name,T.kids,vo,ha,hb]
theorem zEO {a b:T} (ha:a.ord=true) (hb:b.ord=true):(jm a b).ord=true:=by
 unfold jm;rw [T.ord];simp [qD,zbT,ha,hb]
theorem zfW {l:List T} {n:Nat} (h:∀t∈l,t.dp <=n):dpL l <=n:=by
 induction l with
 |nil=>exact Nat.zero_le _
 |cons t l ih=>rw [dpL];exact Nat.max_le.2 ⟨h t (by simp),ih fun x hx=>h x (by simp [hx])⟩
theorem sz1 {b:UInt8}:(⟨#[b]⟩:ByteArray).size≠0:=by show 1≠0;omega
theorem zBL {c:Ck} (h:c.secret.rshp=true):∀t∈jC c,t.rshp=true:=by
 intro t ht;simp only [jC,List.mem_cons,List.not_mem_nil,or_false]at ht;rcases ht with rfl|rfl|rfl|rfl|rfl|rfl
 ·exact zfj (by decide)
 ·exact zfj (kT sz1)
 ·exact zfj (kT sz1)
 ·refine zsm fun u hu=>?_;obtain ⟨s,_,rfl⟩:=List.mem_map.1 hu;exact zfj (kT sz1)
 ·exact h
 ·exact zfj (kT sz1)
theorem zGO {c:Ck} (h:c.secret.ord=true):∀t∈jC c,t.ord=true:=by
 intro t ht;simp only [jC,List.mem_cons,List.not_mem_nil,or_false]at ht;rcases ht with rfl|rfl|rfl|rfl|rfl|rfl
 ·rfl
 ·rfl
 ·rfl
 ·refine zm2 fun u hu=>?_;obtain ⟨s,_,rfl⟩:=List.mem_map.1 hu;rfl
 ·exact h
 ·rfl
theorem zFs {c:Ck} (h:c.secret.dp <=57):∀t∈jC c,t.dp <=57:=by
 intro t ht;simp only [jC,List.mem_cons,List.not_mem_nil,or_false]at ht;have d1:∀s,(zJ s).dp=1:=fun s=>rfl;rcases ht with rfl|rfl|rfl|rfl|rfl|rfl
 ·rw [d1];omega
 ·rw [d1];omega
 ·rw [d1];omega
 ·rw [T.dp_def];have:dpL (zO (y0 c.done)).kids <=1:=zfW fun u hu=>by
   obtain ⟨s,_,rfl⟩:=List.mem_map.1 (show u∈y0 c.done from hu);rw [d1];omega
  omega
 ·exact h
 ·rw [d1];omega
theorem zD5 {key:T} {c:Ck} (hk:key.fit=true) (hs:c.secret.fit=true):(jm key (zO (jC c))).right=true:=by
 obtain ⟨k1,k2,k3⟩:=zeB.1 hk;obtain ⟨s1,s2,s3⟩:=zeB.1 hs;rw [T.right_iff];refine ⟨zDH k1 (zsm (zBL s1)),?_,zEO k2 (zm2 (zGO s2))⟩;rw [T.dp_def];have h1:dpL (jm key (zO (jC c))).kids <=58:=zfW fun u hu=>by
  have hu:u∈[key,zO (jC c)]:=hu;rcases List.mem_cons.1 hu with rfl|hu
  ·omega
  ·simp only [List.mem_singleton]at hu;subst hu;rw [T.dp_def];have:dpL (zO (jC c)).kids <=57:=zfW fun u hu=>zFs s3 u hu;omega
 omega
theorem zy3 {key:T} {c:Ck} {now:Int} (hk:key.fit=true) (hs:c.secret.fit=true) (hu:inI c.upto):
 qI key (yC key c) now=if c.upto < now then (j9,5) else (c,0):=by
 have hse:yC key c=jm key (zO (jC c)):=by unfold yC;rw [hk,hs];rfl
 have hr:=zD5 hk hs;unfold qI;rw [hse,hr];have h4:(jm key (zO (jC c))).kind=4:=rfl;rw [h4];simp only [decide_true,Bool.and_self,if_true];show (if key.same key then _ else _)=_;rw [T.same_self,if_pos rfl];show (if (yC key (vS _ _ _ _ _)).same _ then _ else _)=_;rw [zoD hu,hse,T.same_self,if_pos rfl]
abbrev bl (x:ByteArray):List UInt8:=x.data.toList
theorem qf {x y:ByteArray}:bl (x++y)=bl x++bl y:=by simp [ByteArray.data_append]
theorem zk4 {x y:ByteArray} (h:bl x=bl y):x=y:=kw h
theorem zqO {n:Nat}:bl (zV n)=Lib.decDigits n:=rfl
theorem zup:∀{a b x y:List UInt8},(∀c∈a,qr c) -> (∀c∈b,qr c) -> a++58::x=b++58::y -> a=b /\ x=y
 |[],[],x,y,_,_,h=>by simp at h;exact ⟨rfl,h⟩
 |[],c::b,x,y,_,hb,h=>by
  simp at h;have:=hb c (by simp);rw [<- h.1]at this;exact absurd this (by decide)
 |c::a,[],x,y,ha,_,h=>by
  simp at h;have:=ha c (by simp);rw [h.1]at this;exact absurd this (by decide)
 |c::a,d::b,x,y,ha,hb,h=>by
  simp only [List.cons_append,List.cons.injEq]at h;obtain ⟨e1,e2⟩:=zup (fun z hz=>ha z (by simp [hz])) (fun z hz=>hb z (by simp [hz])) h.2;exact ⟨by rw [h.1,e1],e2⟩
theorem zEh {m n:Nat} (h:zV m=zV n):m=n:=by
 have h1:=(wv m).2.1;have h2:=(wv n).2.1;have:Lib.decDigits m=Lib.decDigits n:=by rw [<- zqO,<- zqO,h]
 rw [<- h1,this,h2]
theorem zB3 {m n:ByteArray} {x y:List UInt8} (hm:m≠⟨#[]⟩) (hn:n≠⟨#[]⟩) (h:bl (qC m)++x=bl (qC n)++y):m=n /\ x=y:=by
 unfold qC at h;rw [if_neg hm,if_neg hn,qf,qf,qf,qf]at h;have e58:bl ⟨#[58]⟩=[58]:=rfl;rw [e58]at h;simp only [List.append_assoc,List.singleton_append]at h;obtain ⟨h1,h2⟩:=zup (fun c hc=>(wv m.size).1 c hc) (fun c hc=>(wv n.size).1 c hc) h;have hs:m.size=n.size:=zEh (zk4 h1);have hl:(bl m).length=(bl n).length:=by simp;exact hs
 obtain ⟨e1,e2⟩:=List.append_inj h2 hl;exact ⟨zk4 e1,e2⟩
theorem zwJ {k l:Int} (hk:knd k=true) (hl:knd l=true) (h:ltr k=ltr l):k=l:=by
 rcases zcz hk with rfl|rfl|rfl|rfl|rfl|rfl|rfl|rfl|rfl|rfl<;>rcases zcz hl with rfl|rfl|rfl|rfl|rfl|rfl|rfl|rfl|rfl|rfl<;>first|rfl|(exact absurd h (by decide))
def ltb (k:Int):UInt8:=(bl (ltr k)).headD 0
theorem zhp {k:Int}:bl (ltr k)=[ltb k]:=rfl
theorem zpl {k:Int} (hk:knd k=true):ltb k≠41 /\ ltb k≠44:=by
 rcases zcz hk with rfl|rfl|rfl|rfl|rfl|rfl|rfl|rfl|rfl|rfl<;>decide
theorem zrR {t:T}:∃r,bl t.text=ltb t.kind::r:=by
 rw [T.text_def];unfold hdT;split<;>(simp only [qf,zhp];exact ⟨_,rfl⟩)
theorem zki {t:T} (h:t.rshp=true):knd t.kind=true /\ (nmd t.kind=true↔t.name≠⟨#[]⟩) /\ (kdn t.kind < 0 \/ (t.kids.length:Int)=kdn t.kind):=by
 rw [t.rshp_def,Bool.and_eq_true]at h;exact T.one_iff.1 h.1
theorem zjB {t:T} (h:t.rshp=true):knd t.kind=true:=(zki h).1
theorem zlw {t:T} (hr:t.rshp=true):(t.kids.isEmpty && !(decide (t.kind=3)))=decide (t.kind <=2):=by
 rw [t.rshp_def,Bool.and_eq_true]at hr;obtain ⟨h1,h2,h3⟩:=T.one_iff.1 hr.1;have hk:=zcz h1;by_cases hc:t.kids=[]
 ·have hz:t.kids.length=0:=by rw [hc];rfl
  rw [hz]at h3;have:t.kind=3 \/ t.kind <=2:=by
   rcases hk with h|h|h|h|h|h|h|h|h|h<;>rw [h]at h3 ⊢<;>simp [kdn]at h3<;>omega
  rw [hc];by_cases h3':t.kind=3
  ·simp [h3']
  ·have:t.kind <=2:=by omega
   simp [h3',this]
 ·have:¬t.kind <=2:=by
   intro h;have:t.kids.length=0:=by
    rcases (show t.kind=1 \/ t.kind=2 by omega) with h|h<;>rw [h]at h3<;>simp [kdn]at h3<;>simp [h3]
   exact hc (List.length_eq_zero_iff.1 this)
  simp [hc,this]
def Inj (t:T):Prop:=∀b:T,b.rshp=true -> ∀x y:List UInt8,bl t.text++x=bl b.text++y -> t=b /\ x=y
theorem bl0:bl ⟨#[]⟩=[]:=rfl
theorem zeH:bl ⟨#[44]⟩=[44]:=rfl
theorem zt9:∀{l:List T},(∀t∈l,Inj t) -> ∀{m:List T},(∀t∈m,t.rshp=true) -> ∀{x y:List UInt8},bl (jv l)++41::x=bl (jv m)++41::y -> l=m /\ x=y
 |[],_,[],_,x,y,h=>by
  have h:41::x=41::y:=h;simp at h;exact ⟨rfl,h⟩
 |[],_,b::m,_,x,y,h=>by
  rw [jv,jv,qf,qf]at h;simp [bl0,zeH]at h
 |a::l,_,[],_,x,y,h=>by
  rw [jv,jv,qf,qf]at h;simp [bl0,zeH]at h
 |a::l,hl,b::m,hm,x,y,h=>by
  rw [jv,jv,qf,qf,qf,qf]at h;have h:44::(bl a.text++(bl (jv l)++41::x))=44::(bl b.text++(bl (jv m)++41::y)):=by simpa [bl0,zeH] using h
  simp only [List.cons.injEq,true_and]at h;obtain ⟨e1,e2⟩:=hl a (by simp) b (hm b (by simp)) _ _ h;obtain ⟨e3,e4⟩:=zt9 (fun t ht=>hl t (by simp [ht])) (fun t ht=>hm t (by simp [ht])) e2;exact ⟨by rw [e1,e3],e4⟩
theorem zDq {l m:List T} (hl:∀t∈l,Inj t) (hlr:∀t∈l,t.rshp=true) (hm:∀t∈m,t.rshp=true) {x y:List UInt8} (h:bl (yv l)++41::x=bl (yv m)++41::y):l=m /\ x=y:=by
 cases l with
 |nil=>
  cases m with
  |nil=>
   have h:41::x=41::y:=h;simp at h;exact ⟨rfl,h⟩
  |cons b m=>
   obtain ⟨r,hr⟩:=@zrR b;rw [yv,yv,qf,hr]at h;have h:41::x=ltb b.kind::(r++bl (jv m)++41::y):=by simpa [bl0,zeH] using h
   simp only [List.cons.injEq]at h;exact absurd h.1.symm (zpl (zjB (hm b (by simp)))).1
 |cons a l=>
  cases m with
  |nil=>
   obtain ⟨r,hr⟩:=@zrR a;rw [yv,yv,qf,hr]at h;have h:ltb a.kind::(r++bl (jv l)++41::x)=41::y:=by simpa [bl0,zeH] using h
   simp only [List.cons.injEq]at h;exact absurd h.1 (zpl (zjB (hlr a (by simp)))).1
  |cons b m=>
   rw [yv,yv,qf,qf,List.append_assoc,List.append_assoc]at h;obtain ⟨e1,e2⟩:=hl a (by simp) b (hm b (by simp)) _ _ h;obtain ⟨e3,e4⟩:=zt9 (fun t ht=>hl t (by simp [ht])) (fun t ht=>hm t (by simp [ht])) e2;exact ⟨by rw [e1,e3],e4⟩
theorem znJ:∀(n:Nat) (a:T),sizeOf a < n -> a.rshp=true -> Inj a
 |0,_,h,_=>by omega
 |n+1,a,hn,ha=>by
  intro b hb x y h;have ih:∀t∈a.kids,Inj t:=fun t ht=>znJ n t (by have:=T.kid_lt ht;omega) (T.rshp_kid ha ht);have ka:=zjB ha;have kb:=zjB hb;rw [T.text_def,T.text_def,zlw ha,zlw hb]at h;have hk:a.kind=b.kind:=by
   apply zwJ ka kb;apply zk4;rw [zhp,zhp];unfold hdT at h;have:∀(k:Int) (n:ByteArray) (c:Bool) (z w:ByteArray),∃r,bl (if c=true then ltr k++qC n else ltr k++qC n++z++w++⟨#[41]⟩)=ltb k::r:=by
    intro k n c z w;cases c<;>(simp only [Bool.false_eq_true,if_true,if_false,qf,zhp];exact ⟨_,rfl⟩)
   obtain ⟨r1,e1⟩:=this a.kind a.name (decide (a.kind <=2)) ⟨#[40]⟩ (yv a.kids);obtain ⟨r2,e2⟩:=this b.kind b.name (decide (b.kind <=2)) ⟨#[40]⟩ (yv b.kids);rw [e1,e2]at h;simp only [List.cons_append,List.cons.injEq]at h;rw [h.1]
  have hnm:∀z w:List UInt8,bl (qC a.name)++z=bl (qC b.name)++w -> a.name=b.name /\ z=w:=by
   intro z w h;obtain ⟨_,na,_⟩:=zki ha;obtain ⟨_,nb,_⟩:=zki hb;rw [<- hk]at nb;by_cases hn:nmd a.kind=true
   ·exact zB3 (na.1 hn) (nb.1 hn) h
   ·have ea:a.name=⟨#[]⟩:=by by_cases e:a.name=⟨#[]⟩;exact e;exact absurd (na.2 e) hn
    have eb:b.name=⟨#[]⟩:=by by_cases e:b.name=⟨#[]⟩;exact e;exact absurd (nb.2 e) hn
    rw [ea,eb]at h ⊢;exact ⟨rfl,by simpa using h⟩
  rw [<- hk]at h;have fin:a.name=b.name -> a.kids=b.kids -> a=b:=by
   obtain ⟨k1,n1,l1⟩:=a;obtain ⟨k2,n2,l2⟩:=b;intro e1 e2;have hk:k1=k2:=hk;have e1:n1=n2:=e1;have e2:l1=l2:=e2;rw [hk,e1,e2]
  unfold hdT at h;by_cases h2:a.kind <=2
  ·simp only [h2,decide_true,if_true,qf,List.append_assoc]at h;have h:=List.append_cancel_left h;obtain ⟨e1,e2⟩:=hnm _ _ h;have l0:∀t:T,t.rshp=true -> t.kind <=2 -> t.kids=[]:=by
    intro t ht h2;have:=zlw ht;simp only [h2,decide_true,Bool.and_eq_true,List.isEmpty_iff]at this;exact this.1
   exact ⟨fin e1 (by rw [l0 a ha h2,l0 b hb (by rw [<- hk];exact h2)]),e2⟩
  ·simp only [h2,decide_false,Bool.false_eq_true,if_false,qf,List.append_assoc]at h;have h:=List.append_cancel_left h;obtain ⟨e1,e2⟩:=hnm _ _ h;have e40:bl ⟨#[40]⟩=[40]:=rfl;have e41:bl ⟨#[41]⟩=[41]:=rfl;rw [e40,e41]at e2;simp only [List.singleton_append,List.cons.injEq,true_and]at e2;obtain ⟨e3,e4⟩:=zDq ih (fun t ht=>T.rshp_kid ha ht) (fun t ht=>T.rshp_kid hb ht) e2;exact ⟨fin e1 e3,e4⟩
theorem zoh {a b:T} (ha:a.rshp=true) (hb:b.rshp=true):a.text=b.text↔a=b:=by
 refine ⟨fun h=>?_,fun h=>by rw [h]⟩;exact (znJ _ a (Nat.lt_succ_self _) ha b hb [] [] (by rw [h])).1
def inL (L:List T) (t:T):Bool:=L.any fun u=>u.same t
theorem wr {L:List T} {t:T}:inL L t=true↔t∈L:=by
 unfold inL;rw [List.any_eq_true];constructor
 ·rintro ⟨u,hu,h⟩;rw [<- T.same_iff.1 h];exact hu
 ·intro h;exact ⟨t,h,T.same_self t⟩
mutual
def mkP (L:List T):T -> Bool
 | .mk k n l=>inL L (.mk k n l) ||(if k=1 then true else if k=2 then false else if k=9 then shP L l else yE L l)
def yE (L:List T):List T -> Bool
 |[]=>true
 |t::l=>mkP L t && yE L l
def shP (L:List T):List T -> Bool
 |a::b::_=>(mkP L a && (inL L (zZ b) ||mkP L b)) ||(mkP L b && (inL L (zZ a) ||mkP L a))
 |_=>false
end
theorem zcn {L:List T}:∀t:T,mkP L t=(inL L t ||(if t.kind=1 then true else if t.kind=2 then false else if t.kind=9 then shP L t.kids else yE L t.kids))
 | .mk _ _ _=>by rw [mkP];rfl
theorem zjz {L:List T}:∀{l:List T},yE L l=l.all (mkP L)
 |[]=>by rw [yE];rfl
 |t::l=>by rw [yE,zjz];rfl
theorem zEs {L:List T} {y:T}:mkP L (zZ y)=(inL L (zZ y) ||mkP L y):=by
 rw [zcn];show (inL L (zZ y) ||yE L [y])=_;rw [zjz];simp
def jF (L:List T):List (Value×AV):=L.map fun t=>(.string t.text,.sc (.bool true))
def ql (M:List (ByteArray×Bool)):List (Value×AV):=M.map fun p=>(.string p.1,.sc (.bool p.2))
theorem zl2 {s:ByteArray}:∀{M:List (ByteArray×Bool)} {i:Nat},(∃f,jq (.string s) (ql M) i=some f /\
 ((f=none /\ ∀p∈M,p.1≠s) \/ ∃j b,f=some (j,.sc (.bool b)) /\ i <=j /\ M[j - i]?=some (s,b)))
 |[],i=>⟨none,rfl,.inl ⟨rfl,fun p hp=>by cases hp⟩⟩
 |(x,b)::M,i=>by
  have e:ql ((x,b)::M)=(.string x,.sc (.bool b))::ql M:=rfl;rw [e,jq];by_cases h:s=x
  ·subst h;have h1:vh (.string s) (.string s)=some true:=by simp only [vh];rw [zbQ.2 rfl]
   rw [h1];exact ⟨_,rfl,.inr ⟨i,b,rfl,Nat.le_refl _,by simp⟩⟩
  ·have h1:vh (.string s) (.string x)=some false:=by
    simp only [vh,Option.some.injEq];rw [Bool.eq_false_iff];exact fun e=>h (zbQ.1 e)
   rw [h1];obtain ⟨f,hf,hc⟩:=@zl2 s M (i+1);refine ⟨f,hf,?_⟩;rcases hc with ⟨hn,hall⟩|⟨j,c,hj,hle,hg⟩
   ·refine .inl ⟨hn,fun p hp=>?_⟩;rcases List.mem_cons.1 hp with rfl|hp
    ·exact fun e=>h e.symm
    ·exact hall p hp
   ·refine .inr ⟨j,c,hj,by omega,?_⟩;have:j - i=(j - (i+1))+1:=by omega
    rw [this,List.getElem?_cons_succ];exact hg
theorem zHP {L:List T}:jF L=ql (L.map fun t=>(t.text,true)):=by simp [jF,ql]
theorem zhi {L:List T} {t:T} (ht:t.rshp=true) (hL:∀u∈L,u.rshp=true):∃f,jq (.string t.text) (jF L) 0=some f /\ wb (.sc (.bool false)) f=.sc (.bool (inL L t)) /\ f.isSome=inL L t:=by
 rw [zHP];obtain ⟨f,hf,hc⟩:=@zl2 t.text (L.map fun t=>(t.text,true)) 0;refine ⟨f,hf,?_⟩;rcases hc with ⟨rfl,hall⟩|⟨j,b,rfl,_,hg⟩
 ·have:inL L t=false:=by
   rw [Bool.eq_false_iff];intro h;exact hall (t.text,true) (List.mem_map.2 ⟨t,wr.1 h,rfl⟩) rfl
  rw [this];exact ⟨rfl,rfl⟩
 ·have hm:=List.mem_of_getElem? hg;obtain ⟨u,hu,e⟩:=List.mem_map.1 hm;simp only [Prod.mk.injEq]at e;have:u=t:=(zoh (hL u hu) ht).1 e.1;subst this;rw [wr.2 hu,<- e.2];exact ⟨rfl,rfl⟩
def MOk (L:List T) (M:List (ByteArray×Bool)):Prop:=∀p∈M,∃t:T,t.rshp=true /\ t.text=p.1 /\ p.2=mkP L t
theorem zp0 {L:List T} {M:List (ByteArray×Bool)} {t:T} (hM:MOk L M) (ht:t.rshp=true):∃f,jq (.string t.text) (ql M) 0=some f /\ (f=none \/ ∃j,f=some (j,.sc (.bool (mkP L t)))):=by
 obtain ⟨f,hf,hc⟩:=@zl2 t.text M 0;refine ⟨f,hf,?_⟩;rcases hc with ⟨rfl,_⟩|⟨j,b,rfl,_,hg⟩
 ·exact .inl rfl
 ·right;obtain ⟨u,hu,e1,e2⟩:=hM _ (List.mem_of_getElem? hg);have:u=t:=(zoh hu ht).1 e1;subst this;exact ⟨j,by rw [<- e2]⟩
def zd9 (M:List (ByteArray×Bool)) (s:ByteArray) (b:Bool):Option (Nat×AV) -> List (ByteArray×Bool)
 |some (i,_)=>M.set i (s,b)
 |none=>M++[(s,b)]
theorem zEa {M:List (ByteArray×Bool)} {s:ByteArray} {b:Bool} {f:Option (Nat×AV)}:(match f with|some (i,_)=>(ql M).set i (.string s,.sc (.bool b))|none=>ql M++[(.string s,.sc (.bool b))])=ql (zd9 M s b f):=by
 cases f with
 |none=>simp [zd9,ql]
 |some p=>obtain ⟨i,v⟩:=p;simp [zd9,ql,List.map_set]
theorem zyc {L:List T} {M:List (ByteArray×Bool)} {t:T} {f:Option (Nat×AV)} (hM:MOk L M) (ht:t.rshp=true):MOk L (zd9 M t.text (mkP L t) f):=by
 intro p hp;cases f with
 |none=>
  rcases List.mem_append.1 hp with hp|hp
  ·exact hM p hp
  ·simp only [List.mem_singleton]at hp;subst hp;exact ⟨t,ht,rfl,rfl⟩
 |some q=>
  obtain ⟨i,v⟩:=q;rcases List.mem_or_eq_of_mem_set hp with hp|hp
  ·exact hM p hp
  ·subst hp;exact ⟨t,ht,rfl,rfl⟩
def St (S:AS) (j:Nat) (M:List (ByteArray×Bool)):AS:=S.set j (some (.map (ql M)))
structure KS (S:AS) (kid i j:Nat) (L:List T) (v:AV):Prop where
 hk:S.heap kid=some (.rows 3 [[v,.mp i,.mp j]])
 hi:S.heap i=some (.map (jF L))
 roj:S.ro <=j
 kj:kid≠j
 ij:i≠j
 tidy:∀t∈L,t.tidy
section
variable {S:AS} {kid i j:Nat} {L:List T} {v:AV} {M:List (ByteArray×Bool)}
theorem vN {b:Nat} (h:b≠j):(St S j M).heap b=S.heap b:=if_neg h
theorem zj0:(St S j M).heap j=some (.map (ql M)):=if_pos rfl
theorem T.tidy.rshp {t:T} (h:t.tidy):t.rshp=true:=(T.right_iff.1 h.right).1
set_option linter.unusedSectionVars false
variable (h:KS S kid i j L v)
include h
theorem KS.ld1 (d:Option Nat) (rg:Nat -> Option (List AV)):za (.ld none 1 false) d rg (St S j M) [.ptr kid 0 1]=some (.mp i,none,St S j M):=by
 rw [yg ((vN h.kj).trans h.hk)];rfl
theorem KS.ld2 (d:Option Nat) (rg:Nat -> Option (List AV)):za (.ld none 1 false) d rg (St S j M) [.ptr kid 0 2]=some (.mp j,none,St S j M):=by
 rw [yg ((vN h.kj).trans h.hk)];rfl
theorem KS.lk1 {t:T} (ht:t.rshp=true) (d:Option Nat) (rg:Nat -> Option (List AV)):za (.lookup true (.sc (.bool false)) false) d rg (St S j M) [.mp i,.sc (.string t.text)]=some (.sc (.bool (inL L t)),none,St S j M):=by
 obtain ⟨f,hf,h1,_⟩:=@zhi L t ht (fun u hu=>(h.tidy u hu).rshp);have hh:(St S j M).heap i=some (.map (jF L)):=(vN h.ij).trans h.hi;simp only [za,hh,qm,ne_eq,not_true,if_false,Option.bind_some,hf,Option.map_some,h1,Bool.false_eq_true]
theorem KS.lk2 {t:T} (ht:t.rshp=true) (hM:MOk L M):∃f,jq (.string t.text) (ql M) 0=some f /\ ((f=none /\ ∀d rg,za (.lookup true (.sc (.bool false)) true) d rg (St S j M) [.mp j,.sc (.string t.text)]=some (.tup [.sc (.bool false),.sc (.bool false)],none,St S j M)) \/
 ∀d rg,za (.lookup true (.sc (.bool false)) true) d rg (St S j M) [.mp j,.sc (.string t.text)]=some (.tup [.sc (.bool (mkP L t)),.sc (.bool true)],none,St S j M)):=by
 obtain ⟨f,hf,hc⟩:=zp0 hM ht;refine ⟨f,hf,?_⟩;have hh:(St S j M).heap j=some (.map (ql M)):=zj0;rcases hc with rfl|⟨q,rfl⟩
 ·left;refine ⟨rfl,fun d rg=>?_⟩;simp only [za,hh,qm,ne_eq,not_true,if_false,Option.bind_some,hf,Option.map_some,wb,Option.isSome_none,if_true]
 ·right;intro d rg;simp only [za,hh,qm,ne_eq,not_true,if_false,Option.bind_some,hf,Option.map_some,wb,Option.isSome_some,if_true]
theorem KS.ms {t:T} {b:Bool} {f:Option (Nat×AV)} (hf:jq (.string t.text) (ql M) 0=some f) (d:Option Nat) (rg:Nat -> Option (List AV)):za (.mapset true) d rg (St S j M) [.mp j,.sc (.string t.text),.sc (.bool b)]=some (.junk,none,St S j (zd9 M t.text b f)):=by
 have hh:(St S j M).heap j=some (.map (ql M)):=zj0;have hro:(St S j M).ro <=j:=h.roj;have hs:∀o,(St S j M).set j o=S.set j o:=fun o=>by
  unfold St AS.set;simp only [AS.mk.injEq,and_true];funext x;split<;>rfl
 have e:=@zEa M t.text b f;simp only [za,hro,qm,hh,hf,Option.map_some,AV.isReg,and_self,if_true,hs];unfold St;rw [<- e];cases f<;>rfl
end
section
variable {S:AS} {kid i j:Nat} {L:List T} {v:AV}
def zj2 (S:AS) (kid j:Nat) (L:List T) (t:T):Prop:=∀M,MOk L M -> ∃M',MOk L M' /\ call 328 [.ptr kid 0 0,.agg t.cells] (St S j M)=some (.sc (.bool (mkP L t)),St S j M')
theorem zji {l:List T} {z:Nat} {f:Bool} (hz:l≠[] -> z=3) (hlen:l.length <=4611686018427387904) (hm:∀t∈l,zj2 S kid j L t) {M:List (ByteArray×Bool)} (hM:MOk L M):
 ∃M',MOk L M' /\ call 326 [.ptr kid 0 0,.lst z f (l.map T.cells)] (St S j M)=some (.sc (.bool (yE L l)),St S j M'):=by
 rw [ym zEQ (by simp) rfl];simp only [ziN];simp [zqG];have h0:yE L l=yE L (l.drop 0):=rfl;rw [h0];refine ko (α:=Nat) (R:=fun q r=>∃M',MOk L M' /\ r=some (.sc (.bool (yE L (l.drop q))),St S j M')) (fun q e rg S'=>q <=l.length /\ NQ [4,6,10,11,12,13,14,15,16,17] [6] e /\ e 0=.ptr kid 0 0 /\ e 7=.lst z f (l.map T.cells) /\ e 8=.sc (.int .i64 (l.length:Nat)) /\ e 9=.sc (.int .i64 (q:Nat)) /\ ∃M,MOk L M /\ S'=St S j M) (fun q=>l.length - q) (fun _ _ _ _ h=>h.2.1) ?_ 0 _ _ _ ?_;rotate_left
 ·refine ⟨by omega,?_,by simp,by simp,by simp,by simp,M,hM,rfl⟩
  repeat (first|exact vx rfl|refine yh ?_ (by simp))
 intro kk hkk q e rg S' ⟨hq,hn,g0,g7,g8,g9,M1,hM1,hS⟩ ih;subst hS;by_cases hc:q < l.length
 ·obtain ⟨t,ht⟩:=jK hc;have w2:IntKind.i64.wrap ((q:Int)+1)=((q+1:Nat):Int):=w64 (by omega);have hcq:(q:Int) < (l.length:Int):=by omega
  have hz3:z=3:=hz (by rintro rfl;simp at hc);have hia:pev (.iaddr 3) [.lst z f (l.map T.cells),.sc (.int .i64 (q:Nat))]=some (.iptr t.cells):=by
   subst hz3;rw [zcS (by omega)];simp [ht]
  obtain ⟨hi,he⟩:=List.getElem?_eq_some_iff.1 ht;have hd:yE L (l.drop q)=(mkP L t && yE L (l.drop (q+1))):=by
   rw [List.drop_eq_getElem_cons hi,he,yE]
  obtain ⟨M2,hM2,hcall⟩:=hm t (List.mem_of_getElem? ht) M1 hM1;cases hb:mkP L t with
  |false=>
   rw [hb]at hcall hd;rw [hd];simp [zia,g0,g7,g8,g9,hcq,hia,hcall];rw [hkk];simp;exact ⟨M2,hM2,rfl⟩
  |true=>
   rw [hb]at hcall hd;simp [zia,g0,g7,g8,g9,hcq,hia,hcall,w2];refine ih (q+1) _ _ _ (by omega) (fun _ h=>?_) ?_
   ·rw [hd];simpa using h
   ·refine ⟨by omega,?_,by simp [g0],by simp [g7],by simp [g8],by simp,M2,hM2,rfl⟩
    repeat (first|exact zaH hn|refine yh ?_ (by simp))
 ·have hq':q=l.length:=by omega
  subst hq';simp [zia,g8,g9,yE];rw [hkk];simp;exact ⟨M1,hM1,rfl⟩
theorem zmx {t:T} (h:t.tidy) (hd:t.dp <=59) (hb:t.bulk <=1099511627770):(zZ t).tidy:=by
 obtain ⟨h1,h2,h3⟩:=T.right_iff.1 h.right;refine ⟨T.right_iff.2 ⟨?_,?_,?_⟩,?_⟩
 ·unfold zZ;rw [T.rshp];simp [T.one,knd,nmd,kdn,T.kind,T.name,T.kids,vo,h1]
 ·rw [T.dp_def];have:dpL (zZ t).kids <=59:=zfW fun u hu=>by
   have hu:u∈[t]:=hu;simp only [List.mem_singleton]at hu;subst hu;exact hd
  omega
 ·unfold zZ;rw [T.ord];simp [qD,zbT,h3]
 ·unfold zZ;rw [T.bulk];have:yi [t]=t.bulk:=by rw [yi,yi];omega
  have:(⟨#[]⟩:ByteArray).size=0:=rfl;omega
end
theorem znM {t:T}:4 <=t.bulk:=by cases t;rw [T.bulk];omega
section
variable {S:AS} {kid i j:Nat} {L:List T} {v:AV}
set_option maxHeartbeats 4000000 in
set_option maxRecDepth 100000 in
theorem zmG (h:KS S kid i j L v):∀(n:Nat) (t:T),t.bulk < n -> t.tidy -> zj2 S kid j L t
 |0,_,hn,_=>by omega
 |n+1,t,hn,ht=>by
  intro M hM;have ih:∀u,u.bulk < t.bulk -> u.tidy -> zj2 S kid j L u:=fun u hu hut=>zmG h n u (by omega) hut;rw [ym zCB (by simp) rfl];have e121:∀S,call 121 [.agg t.cells] S=some (.sc (.string t.text),S):=fun S=>by rw [zeX ht.bulk,ht.txt]
  have hne:t.text≠⟨#[]⟩:=T.text_ne;have l1:=fun M=>@KS.ld1 S kid i j L v M h;have l2:=fun M=>@KS.ld2 S kid i j L v M h;have k1:=fun d rg=>@KS.lk1 S kid i j L v M h t ht.rshp d rg;cases hin:inL L t with
  |true=>
   refine ⟨M,hM,?_⟩;have:mkP L t=true:=by rw [zcn,hin];rfl
   rw [this];rw [hin]at k1;simp [wU,zbK,e121,hne,l1,k1]
  |false=>
   rw [hin]at k1;obtain ⟨f,hf,hc⟩:=h.lk2 ht.rshp hM;rcases hc with ⟨rfl,lk⟩|lk
   ·have hms:∀M' b,MOk L M' -> mkP L t=b -> ∃M'',MOk L M'' /\ ∀d rg,za (.mapset true) d rg (St S j M') [.mp j,.sc (.string t.text),.sc (.bool b)]=some (.junk,none,St S j M''):=fun M' b hM' hb=>by
     obtain ⟨f',hf',_⟩:=zp0 hM' ht.rshp;exact ⟨zd9 M' t.text b f',by rw [<- hb];exact zyc hM' ht.rshp,fun d rg=>h.ms hf' d rg⟩
    by_cases q1:t.kind=1
    ·have d1:decide (t.kind=1)=true:=decide_eq_true q1;have hb:mkP L t=true:=by rw [zcn,if_pos q1,Bool.or_true]
     obtain ⟨M2,hM2,ms⟩:=hms M true hM hb;refine ⟨M2,hM2,?_⟩;rw [hb];simp [wU,zbK,e121,hne,l1,l2,k1,lk,ms,d1]
    have d1:decide (t.kind=1)=false:=decide_eq_false q1;by_cases q2:t.kind=2
    ·have d2:decide (t.kind=2)=true:=decide_eq_true q2;have hb:mkP L t=false:=by rw [zcn,if_neg q1,if_pos q2,hin];rfl
     obtain ⟨M2,hM2,ms⟩:=hms M false hM hb;refine ⟨M2,hM2,?_⟩;rw [hb];simp [wU,zbK,e121,hne,l1,l2,k1,lk,ms,d1,d2]
    have d2:decide (t.kind=2)=false:=decide_eq_false q2;by_cases q9:t.kind=9
    ·have d9:decide (t.kind=9)=true:=decide_eq_true q9;have hk2:t.kids.length=2:=by
      have h3:=(T.one_iff.1 ((Bool.and_eq_true _ _▸(t.rshp_def▸ht.rshp)):_ /\ _).1).2.2;have:kdn t.kind=2:=by rw [q9];rfl
      omega
     obtain ⟨x,y,hxy⟩:∃x y,t.kids=[x,y]:=by
      match hl:t.kids,hk2 with
      |[x,y],_=>exact ⟨x,y,rfl⟩
     have tx:=ht.kid (u:=x) (by rw [hxy];simp);have ty:=ht.kid (u:=y) (by rw [hxy];simp);have hbk:x.bulk+y.bulk+4 <=t.bulk:=by
      have hb:=t.bulk_kids;rw [hxy,yi,yi,yi]at hb;omega
     have gx:=@znM x;have gy:=@znM y;have htb:=ht.bulk;have hdp:=(T.right_iff.1 ht.right).2.1;have px:(zZ x).bulk=x.bulk+4:=by
      unfold zZ;rw [T.bulk,yi,yi];have:(⟨#[]⟩:ByteArray).size=0:=rfl;omega
     have py:(zZ y).bulk=y.bulk+4:=by
      unfold zZ;rw [T.bulk,yi,yi];have:(⟨#[]⟩:ByteArray).size=0:=rfl;omega
     have tpx:=zmx tx (by have:=T.dp_kid (t:=t) (u:=x) (by rw [hxy];simp);omega) (by omega);have tpy:=zmx ty (by have:=T.dp_kid (t:=t) (u:=y) (by rw [hxy];simp);omega) (by omega);have ix:=ih x (by omega) tx;have iy:=ih y (by omega) ty;have ipx:=ih (zZ x) (by omega) tpx;have ipy:=ih (zZ y) (by omega) tpy;have l0:pev (.iaddr 3) [zf t.kids,.i 0]=some (.iptr x.cells):=zI (i:=0) (by rw [hxy];rfl);have l1':pev (.iaddr 3) [zf t.kids,.i 1]=some (.iptr y.cells):=zI (i:=1) (by rw [hxy];rfl);have hsh:mkP L t=(yE L [x,zZ y] ||yE L [y,zZ x]):=by
      rw [zcn,if_neg q1,if_neg q2,if_pos q9,hin,hxy,zjz,zjz];simp [shP,zEs]
     obtain ⟨M1,hM1,c1⟩:=zji (l:=[x,zZ y]) (z:=3) (f:=true) (fun _=>rfl) (by simp) (by
      intro u hu;simp only [List.mem_cons,List.not_mem_nil,or_false]at hu;rcases hu with rfl|rfl
      ·exact ix
      ·exact ipy) hM
     simp only [List.map_cons,List.map_nil]at c1;cases hb1:yE L [x,zZ y] with
     |true=>
      rw [hb1]at c1 hsh;obtain ⟨M3,hM3,ms⟩:=hms M1 true hM1 (by rw [hsh];rfl);refine ⟨M3,hM3,?_⟩;rw [hsh];simp [wU,zbK,e121,hne,l1,l2,k1,lk,ms,d1,d2,d9,l0,l1',c1,zw]
     |false=>
      rw [hb1]at c1 hsh;rw [Bool.false_or]at hsh;obtain ⟨M2,hM2,c2⟩:=zji (l:=[y,zZ x]) (z:=3) (f:=true) (fun _=>rfl) (by simp) (by
       intro u hu;simp only [List.mem_cons,List.not_mem_nil,or_false]at hu;rcases hu with rfl|rfl
       ·exact iy
       ·exact ipx) hM1
      simp only [List.map_cons,List.map_nil]at c2;obtain ⟨M3,hM3,ms⟩:=hms M2 _ hM2 hsh;refine ⟨M3,hM3,?_⟩;rw [hsh];generalize yE L [y,zZ x]=bb at *;cases bb<;>simp [wU,zbK,e121,hne,l1,l2,k1,lk,ms,d1,d2,d9,l0,l1',c1,c2,zw]
    ·have d9:decide (t.kind=9)=false:=decide_eq_false q9;have hsh:mkP L t=yE L t.kids:=by rw [zcn,if_neg q1,if_neg q2,if_neg q9,hin];rfl
     have hlen:=t.bulk_len;have htb:=ht.bulk;obtain ⟨M1,hM1,c1⟩:=zji (l:=t.kids) (z:=if t.kids=[] then 0 else 3) (f:=false) (fun hh=>if_neg hh) (by omega) (fun u hu=>ih u (by have:=T.bulk_kid hu;omega) (ht.kid hu)) hM;have hlst:AV.lst (if t.kids=[] then 0 else 3) false (t.kids.map T.cells)=zf t.kids:=by
      unfold zf lstN;cases t.kids<;>simp
     rw [hlst]at c1;obtain ⟨M3,hM3,ms⟩:=hms M1 _ hM1 hsh;refine ⟨M3,hM3,?_⟩;rw [hsh];generalize yE L t.kids=bb at *;simp [wU,zbK,e121,hne,l1,l2,k1,lk,ms,d1,d2,d9,c1]
   ·refine ⟨M,hM,?_⟩;simp [wU,zbK,e121,hne,l1,l2,k1,lk]
theorem zlJ (h:KS S kid i j L v) {t:T} (ht:t.tidy) {M:List (ByteArray×Bool)} (hM:MOk L M):∃M',MOk L M' /\ call 231 [.ptr kid 0 0,.agg t.cells] (St S j M)=some (.sc (.bool (mkP L t)),St S j M'):=by
 rw [ym zEw (by simp) rfl];obtain ⟨M',hM',hc⟩:=zmG h (t.bulk+1) t (by omega) ht M hM;have e:=fun S=>@zkM t S ht;refine ⟨M',hM',?_⟩;simp [zgF,zsn,e,hc]
end
def j6 (L:List T) (t:T):List T:=if inL L t then L else L++[t]
def j5 (kid i j:Nat) (v:AV) (x:Nat):Prop:=x=kid \/ x=i \/ x=j \/ ∃a b c d,v=.arr x a b c d
structure KN (S:AS) (kid i j:Nat) (L:List T) (M:List (ByteArray×Bool)) (v:AV):Prop where
 hk:S.heap kid=some (.rows 3 [[v,.mp i,.mp j]])
 hi:S.heap i=some (.map (jF L))
 hj:S.heap j=some (.map (ql M))
 rok:S.ro <=kid
 roi:S.ro <=i
 roj:S.ro <=j
 ki:kid≠i
 kj:kid≠j
 ij:i≠j
 lk:kid < S.n
 li:i < S.n
 lj:j < S.n
 hv:(L=[] /\ v=.lst 0 true []) \/ ∃id,v=.arr id 3 0 L.length none /\ S.heap id=some (.rows 3 (L.map T.cells)) /\ S.ro <=id /\ id < S.n /\ id≠kid /\ id≠i /\ id≠j
 tidy:∀t∈L,t.tidy
 ok:MOk L M
section
variable {S:AS} {kid i j:Nat} {L:List T} {v:AV} {M:List (ByteArray×Bool)}
theorem KN.ks (h:KN S kid i j L M v):KS S kid i j L v:=⟨h.hk,h.hi,h.roj,h.kj,h.ij,h.tidy⟩
theorem KN.st (h:KN S kid i j L M v):St S j M=S:=zkO h.hj
theorem KN.reg (h:KN S kid i j L M v):v.isReg=false:=by
 rcases h.hv with ⟨_,rfl⟩|⟨id,rfl,_⟩<;>rfl
theorem KN.len (h:KN S kid i j L M v):pev .lenL [v]=some (.sc (.int .i64 (L.length:Nat))):=by
 rcases h.hv with ⟨rfl,rfl⟩|⟨id,rfl,_⟩<;>rfl
theorem KN.made (h:KN S kid i j L M v) {M':List (ByteArray×Bool)} (hM:MOk L M'):KN (St S j M') kid i j L M' v where
 hk:=(vN h.kj).trans h.hk
 hi:=(vN h.ij).trans h.hi
 hj:=zj0
 rok:=h.rok
 roi:=h.roi
 roj:=h.roj
 ki:=h.ki
 kj:=h.kj
 ij:=h.ij
 lk:=h.lk
 li:=h.li
 lj:=h.lj
 hv:=by
  rcases h.hv with hv|⟨id,e,h1,h2,h3,h4,h5,h6⟩
  ·exact .inl hv
  ·exact .inr ⟨id,e,(vN h6).trans h1,h2,h3,h4,h5,h6⟩
 tidy:=h.tidy
 ok:=hM
theorem zq2 {t:T}:jF (L++[t])=jF L++[(.string t.text,.sc (.bool true))]:=by simp [jF]
set_option maxHeartbeats 4000000 in
theorem zm1 {t:T} (h:KN S kid i j L M v) (ht:t.tidy) (hl:L.length <=1000000):∃S' M' v',call 327 [.ptr kid 0 0,.agg t.cells] S=some (.tup [],S') /\ KN S' kid i j (j6 L t) M' v' /\ S'.ro=S.ro /\ S.n <=S'.n /\
 ∀x,x < S.n -> ¬j5 kid i j v x -> S'.heap x=S.heap x /\ ¬j5 kid i j v' x:=by
 rw [ym zI8 (by simp) rfl];have e254:=fun S=>@zkM t S ht;have e121:∀S,call 121 [.agg t.cells] S=some (.sc (.string t.text),S):=fun S=>by rw [zeX ht.bulk,ht.txt]
 have hne:t.text≠⟨#[]⟩:=T.text_ne;have hst:=h.st;have l1:=fun d rg=>@KS.ld1 S kid i j L v M h.ks d rg;have k1:=fun d rg=>@KS.lk1 S kid i j L v M h.ks t ht.rshp d rg;rw [hst]at l1 k1;cases hin:inL L t with
 |true=>
  rw [hin]at k1;refine ⟨S,M,v,?_,?_,rfl,Nat.le_refl _,fun x hx hk=>⟨rfl,hk⟩⟩
  ·simp [zga,zkF,e254,e121,hne,l1,k1]
  ·unfold j6;rw [if_pos hin];exact h
 |false=>
  rw [hin]at k1;have hadd:j6 L t=L++[t]:=by unfold j6;rw [if_neg (by rw [hin];simp)]
  rw [hadd];obtain ⟨f,hf,hv0,hs0⟩:=@zhi L t ht.rshp (fun u hu=>(h.tidy u hu).rshp);rw [hin]at hs0;have hfn:f=none:=by cases f with|none=>rfl|some _=>cases hs0
  subst hfn;obtain ⟨S1,hS1⟩:∃S1,S1=S.set i (some (.map (jF (L++[t])))):=⟨_,rfl⟩;have hms:∀d rg,za (.mapset true) d rg S [.mp i,.sc (.string t.text),.sc (.bool true)]=some (.junk,none,S1):=fun d rg=>by
   simp only [za,h.roi,qm,h.hi,hf,Option.map_some,AV.isReg,and_self,if_true,hS1,zq2]
  have n1:S1.n=S.n:=by rw [hS1];rfl
  have r1:S1.ro=S.ro:=by rw [hS1];rfl
  have x1:∀b,b≠i -> S1.heap b=S.heap b:=fun b hb=>by rw [hS1];exact if_neg hb
  have i1:S1.heap i=some (.map (jF (L++[t]))):=by rw [hS1];exact if_pos rfl
  have ld0:∀d rg,za (.ld none 1 false) d rg S1 [.ptr kid 0 0]=some (v,none,S1):=fun d rg=>by
   rw [yg ((x1 kid h.ki).trans h.hk)];simp [yM]
  obtain ⟨S2,hap,n2,r2,b2,x2⟩:∃S2,(∀d rg,za (.append 3 48) d rg S1 [v,.lst 3 true [[.i 0,.s ⟨#[]⟩,.lst 0 true []]]]=some (.arr S.n 3 0 (L.length+1) none,none,S2)) /\ S2.n=S.n+1 /\ S2.ro=S.ro /\ S2.heap S.n=some (.rows 3 (L.map T.cells++[[.i 0,.s ⟨#[]⟩,.lst 0 true []]])) /\
   ∀x,x≠S.n -> (∀a b c d,v≠.arr x a b c d) -> S2.heap x=S1.heap x:=by
   rcases h.hv with ⟨rfl,rfl⟩|⟨id,rfl,hh,hro,hlt,g1,g2,g3⟩
   ·refine ⟨S1.new (.rows 3 [[.i 0,.s ⟨#[]⟩,.lst 0 true []]]),fun d rg=>?_,by show S1.n+1=_;omega,r1,?_,?_⟩
    ·simp [za,zv,jd,n1]
    ·rw [<- n1];exact jw
    ·intro x hx _;exact if_neg (by rw [n1];exact hx)
   ·have hh1:S1.heap id=some (.rows 3 (L.map T.cells)):=(x1 id g2).trans hh;refine ⟨(S1.set id none).new (.rows 3 (L.map T.cells++[[.i 0,.s ⟨#[]⟩,.lst 0 true []]])),fun d rg=>?_,by show S1.n+1=_;omega,r1,?_,?_⟩
    ·have hc1:¬(S1.ro > id):=by rw [r1];omega
     have hc2:¬id < S1.ro:=by rw [r1];omega
     have hc3:(L.length+1) * 48 <=140737488355328:=by omega
     have hlm:(L.map T.cells).length=L.length:=List.length_map _;have hrw:zv 3 S1 (.lst 3 true [[.i 0,.s ⟨#[]⟩,.lst 0 true []]])=some [[.i 0,.s ⟨#[]⟩,.lst 0 true []]]:=by simp [zv]
     simp only [za,hrw,jd,Option.bind_some,List.isEmpty_cons,Bool.false_eq_true,if_false,hh1,List.length_singleton,Nat.zero_add,hlm];rw [if_neg (by simp;omega),if_neg (by omega),if_pos ⟨trivial,hc3⟩];have htk:(L.map T.cells).take L.length=L.map T.cells:=by rw [<- hlm];exact List.take_length
     simp only [htk,Option.map_some,Option.some.injEq,Prod.mk.injEq,AV.arr.injEq,and_true,true_and];exact n1
    ·show (if S.n=S1.n then _ else _)=_;rw [if_pos n1.symm]
    ·intro x hx hv;show (if x=S1.n then _ else (if x=id then none else S1.heap x))=_;rw [if_neg (by rw [n1];exact hx),if_neg (fun e=>hv _ _ _ _ (by rw [e]))]
  have hvx:∀x,¬j5 kid i j v x -> ∀a b c d,v≠.arr x a b c d:=fun x hx a b c d e=>hx (.inr (.inr (.inr ⟨a,b,c,d,e⟩)));have hvk:∀a b c d,v≠.arr kid a b c d:=fun a b c d e=>by
   rcases h.hv with ⟨_,e'⟩|⟨id,e',_,_,_,g1,_⟩
   ·rw [e']at e;cases e
   ·rw [e']at e;cases e;exact g1 rfl
  have hvi:∀a b c d,v≠.arr i a b c d:=fun a b c d e=>by
   rcases h.hv with ⟨_,e'⟩|⟨id,e',_,_,_,_,g1,_⟩
   ·rw [e']at e;cases e
   ·rw [e']at e;cases e;exact g1 rfl
  have hvj:∀a b c d,v≠.arr j a b c d:=fun a b c d e=>by
   rcases h.hv with ⟨_,e'⟩|⟨id,e',_,_,_,_,_,g1⟩
   ·rw [e']at e;cases e
   ·rw [e']at e;cases e;exact g1 rfl
  have lk:=h.lk;have li:=h.li;have lj:=h.lj;have hlen:=h.len;have hia:pev (.iaddr 3) [.arr S.n 3 0 (L.length+1) none,.sc (.int .i64 (L.length:Nat))]=some (.ptr S.n L.length 0):=by simp [pev];omega
  obtain ⟨S3,hS3⟩:∃S3,S3=S2.set S.n (some (.rows 3 ((L++[t]).map T.cells))):=⟨_,rfl⟩;have hst1:∀d rg,za (.st none 3) d rg S2 [.ptr S.n L.length 0,.agg t.cells]=some (.junk,none,S3):=fun d rg=>by
   have hro2:S2.ro <=S.n:=by rw [r2];have:=h.rok;omega
   have hcs:(AV.agg t.cells).cells=t.cells:=rfl;have hrow:(L.map T.cells++[[AV.i 0,.s ⟨#[]⟩,.lst 0 true []]])[L.length]?=some [AV.i 0,.s ⟨#[]⟩,.lst 0 true []]:=by
    rw [List.getElem?_append_right (by simp)];simp
   have hsc:setCells [AV.i 0,.s ⟨#[]⟩,.lst 0 true []] 0 t.cells=t.cells:=by simp [setCells]
   have hset:(L.map T.cells++[[AV.i 0,.s ⟨#[]⟩,.lst 0 true []]]).set L.length t.cells=(L++[t]).map T.cells:=by
    rw [List.set_append_right _ _ (by simp)];simp
   simp only [za,hro2,hcs,T.cell_cells,T.len_cells,and_self,if_true,b2,hrow,Option.bind_some,Nat.zero_add,List.length_cons,List.length_nil,Nat.le_refl,hsc,hset,hS3]
  have n3:S3.n=S.n+1:=by rw [hS3];exact n2
  have r3:S3.ro=S.ro:=by rw [hS3];exact r2
  have x3:∀x,x≠S.n -> S3.heap x=S2.heap x:=fun x hx=>by rw [hS3];exact if_neg hx
  have k3:S3.heap kid=some (.rows 3 [[v,.mp i,.mp j]]):=by rw [x3 kid (by omega),x2 kid (by omega) hvk,x1 kid h.ki];exact h.hk
  obtain ⟨S4,hS4⟩:∃S4,S4=S3.set kid (some (.rows 3 [[.arr S.n 3 0 (L.length+1) none,.mp i,.mp j]])):=⟨_,rfl⟩;have hst2:∀d rg,za (.st none 1) d rg S3 [.ptr kid 0 0,.arr S.n 3 0 (L.length+1) none]=some (.junk,none,S4):=fun d rg=>by
   have hro3:S3.ro <=kid:=by rw [r3];exact h.rok
   simp [za,hro3,k3,hS4,AV.isCell,AV.cells]
  have n4:S4.n=S.n+1:=by rw [hS4];exact n3
  have r4:S4.ro=S.ro:=by rw [hS4];exact r3
  have x4:∀x,x≠kid -> S4.heap x=S3.heap x:=fun x hx=>by rw [hS4];exact if_neg hx
  have j4:S4.heap j=some (.map (ql M)):=by rw [x4 j (Ne.symm h.kj),x3 j (by omega),x2 j (by omega) hvj,x1 j (Ne.symm h.ij)];exact h.hj
  have i4:S4.heap i=some (.map (jF (L++[t]))):=by rw [x4 i (Ne.symm h.ki),x3 i (by omega),x2 i (by omega) hvi];exact i1
  have b4:S4.heap S.n=some (.rows 3 ((L++[t]).map T.cells)):=by rw [x4 S.n (by omega),hS3];exact if_pos rfl
  have k4:S4.heap kid=some (.rows 3 [[.arr S.n 3 0 (L.length+1) none,.mp i,.mp j]]):=by rw [hS4];exact if_pos rfl
  have ld2:∀d rg,za (.ld none 1 false) d rg S4 [.ptr kid 0 2]=some (.mp j,none,S4):=fun d rg=>by rw [yg k4];rfl
  have hclr:∀d rg,za .clearM d rg S4 [.mp j]=some (.tup [],none,S4.set j (some (.map []))):=fun d rg=>by
   have hro4:S4.ro <=j:=by rw [r4];exact h.roj
   simp only [za,hro4,if_true,j4]
  have hchk:(S.n !=kid)=true:=by simp;omega
  have hvr:=h.reg;have e5:∀x,x≠j -> (S4.set j (some (.map []))).heap x=S4.heap x:=fun x hx=>if_neg hx;refine ⟨S4.set j (some (.map [])),[],.arr S.n 3 0 (L.length+1) none,?_,?_,r4,by show S.n <=S4.n;omega,?_⟩
  ·simp [zga,zkF,e254,e121,hne,l1,k1,hms,ld0,hvr,hlen,zw,hap,hia,hst1,hst2,ld2,hclr,zjA,hchk]
  ·refine ⟨?_,?_,?_,by show S4.ro <=_;rw [r4];exact h.rok,by show S4.ro <=_;rw [r4];exact h.roi,by show S4.ro <=_;rw [r4];exact h.roj,h.ki,h.kj,h.ij,by show _ < S4.n;omega,by show _ < S4.n;omega,by show _ < S4.n;omega,.inr ⟨S.n,?_,?_,by show S4.ro <=_;rw [r4];have:=h.rok;omega,by show _ < S4.n;omega,by omega,by omega,by omega⟩,?_,fun p hp=>by cases hp⟩
   ·rw [e5 kid h.kj];exact k4
   ·rw [e5 i h.ij];exact i4
   ·exact if_pos rfl
   ·simp
   ·rw [e5 S.n (by omega)];exact b4
   ·intro u hu;rcases List.mem_append.1 hu with hu|hu
    ·exact h.tidy u hu
    ·simp only [List.mem_singleton]at hu;subst hu;exact ht
  ·intro x hx hk;have q1:x≠kid:=fun e=>hk (.inl e);have q2:x≠i:=fun e=>hk (.inr (.inl e));have q3:x≠j:=fun e=>hk (.inr (.inr (.inl e)));refine ⟨?_,?_⟩
   ·rw [e5 x q3,x4 x q1,x3 x (by omega),x2 x (by omega) (hvx x hk),x1 x q2]
   ·rintro (e|e|e|⟨a,b,c,d,e⟩)
    ·exact q1 e
    ·exact q2 e
    ·exact q3 e
    ·cases e;omega
end
instance decT:DecidableEq T:=fun a b=>decidable_of_iff (a.same b=true) T.same_iff
theorem zEG {L:List T} {t u:T}:u∈j6 L t↔u∈L \/ u=t:=by
 unfold j6;split
 ·rename_i h;refine ⟨.inl,fun hu=>?_⟩;rcases hu with hu|rfl
  ·exact hu
  ·exact wr.1 h
 ·simp
theorem zuE {L:List T} {t:T} (h:L.Nodup):(j6 L t).Nodup:=by
 unfold j6;split
 ·exact h
 ·rename_i hn;rw [List.nodup_append];refine ⟨h,by simp,fun a ha b hb=>?_⟩;simp only [List.mem_singleton]at hb;subst hb;rintro rfl;exact hn (wr.2 ha)
theorem zJc {L:List T} {t:T}:L.length <=(j6 L t).length /\ (j6 L t).length <=L.length+1:=by
 unfold j6;split<;>simp
def js (L:List T) (m:List T):List T:=m.foldl j6 L
theorem zcJ {m:List T}:∀{L:List T} {u:T},u∈js L m↔u∈L \/ u∈m:=by
 induction m with
 |nil=>intro L u;simp [js]
 |cons a m ih=>
  intro L u;have:=@ih (j6 L a) u;unfold js at this ⊢;rw [List.foldl_cons,this,zEG];simp only [List.mem_cons];constructor
  ·rintro ((h|h)|h)
   ·exact .inl h
   ·exact .inr (.inl h)
   ·exact .inr (.inr h)
  ·rintro (h|h|h)
   ·exact .inl (.inl h)
   ·exact .inl (.inr h)
   ·exact .inr h
theorem zqX {m:List T}:∀{L:List T},L.Nodup -> (js L m).Nodup:=by
 induction m with
 |nil=>intro L h;exact h
 |cons a m ih=>intro L h;exact ih (zuE h)
theorem zmQ {m:List T}:∀{L:List T},L.length <=(js L m).length /\ (js L m).length <=L.length+m.length:=by
 induction m with
 |nil=>intro L;exact ⟨Nat.le_refl _,Nat.le_refl _⟩
 |cons a m ih=>
  intro L;have h1:=@ih (j6 L a);have h2:=@zJc L a;unfold js at h1 ⊢;rw [List.foldl_cons,List.length_cons];omega
theorem zsa {L m:List T} {q:Nat} {t:T} (h:m[q]?=some t):js L (m.take (q+1))=j6 (js L (m.take q)) t:=by
 unfold js;rw [List.take_add_one,h];simp
theorem zvU {L:List T} {t:T}:L <+:j6 L t:=by
 unfold j6;split
 ·exact List.prefix_refl _
 ·exact List.prefix_append _ _
theorem zHu {m:List T}:∀{L:List T},L <+:js L m:=by
 induction m with
 |nil=>intro L;exact List.prefix_refl _
 |cons a m ih=>intro L;exact List.IsPrefix.trans zvU ih
theorem zwo {L m:List T} (h:(js L m).length <=L.length):js L m=L:=(zHu.eq_of_length_le h).symm
theorem zfJ:∀{L U:List T},L.Nodup -> (∀t∈L,t∈U) -> L.length <=U.length
 |[],U,_,_=>Nat.zero_le _
 |a::L,U,hn,hs=>by
  rw [List.nodup_cons]at hn;have ha:=hs a List.mem_cons_self;have:=@zfJ L (U.erase a) hn.2 fun t ht=>(List.mem_erase_of_ne (by rintro rfl;exact hn.1 ht)).2 (hs t (List.mem_cons_of_mem _ ht));rw [List.length_erase_of_mem ha]at this;have hp:=List.length_pos_of_mem ha;rw [List.length_cons];omega
def vg (t:T):Option (List T×List T):=if t.kind=3 then some ([],t.kids) else if t.kind=4 then some (t.kids.take 1,t.kids.drop 1) else if t.kind=10 then some (t.kids.drop 1,t.kids.take 1) else none
def yY (L:List T) (t:T):List T:=match vg t with
 |some (n,g)=>if yE L n then g else []
 |none=>[]
theorem zox {t:T} {n g:List T} (h:vg t=some (n,g)):(∀u∈n,u∈t.kids) /\ ∀u∈g,u∈t.kids:=by
 unfold vg at h;split at h
 ·cases h;exact ⟨fun u hu=>absurd hu (List.not_mem_nil),fun u hu=>hu⟩
 ·split at h
  ·cases h;exact ⟨fun u hu=>List.mem_of_mem_take hu,fun u hu=>List.mem_of_mem_drop hu⟩
  ·split at h
   ·cases h;exact ⟨fun u hu=>List.mem_of_mem_drop hu,fun u hu=>List.mem_of_mem_take hu⟩
   ·cases h
theorem ztp {L:List T} {t u:T} (h:u∈yY L t):u∈t.kids:=by
 unfold yY at h;split at h
 ·rename_i n g hd;split at h
  ·exact (zox hd).2 u h
  ·cases h
 ·cases h
theorem zkn {L Q:List T} {t:T} (h:∀u∈L,u∈Q) (ht:inL L t=true):inL Q t=true:=wr.2 (h t (wr.1 ht))
mutual
theorem zml {L Q:List T} (h:∀u∈L,u∈Q):∀t:T,mkP L t=true -> mkP Q t=true
 | .mk k n l=>by
   rw [mkP,mkP,Bool.or_eq_true,Bool.or_eq_true];rintro (h1|h1)
   ·exact .inl (zkn h h1)
   ·right;split at h1
    ·rename_i e;rw [if_pos e]
    ·rename_i e;rw [if_neg e];split at h1
     ·cases h1
     ·rename_i e;rw [if_neg e];split at h1
      ·rename_i e;rw [if_pos e];exact zzv h l h1
      ·rename_i e;rw [if_neg e];exact zlg h l h1
theorem zlg {L Q:List T} (h:∀u∈L,u∈Q):∀l:List T,yE L l=true -> yE Q l=true
 |[],_=>by rw [yE]
 |t::l,h1=>by
  rw [yE,Bool.and_eq_true]at h1 ⊢;exact ⟨zml h t h1.1,zlg h l h1.2⟩
theorem zzv {L Q:List T} (h:∀u∈L,u∈Q):∀l:List T,shP L l=true -> shP Q l=true
 |[],h1=>by simp [shP]at h1
 |[a],h1=>by simp [shP]at h1
 |a::b::l,h1=>by
  have ma:=zml h a;have mb:=zml h b;have ia:=@zkn L Q (zZ a) h;have ib:=@zkn L Q (zZ b) h;simp only [shP,Bool.or_eq_true,Bool.and_eq_true]at h1 ⊢;rcases h1 with ⟨x,y|y⟩|⟨x,y|y⟩
  ·exact .inl ⟨ma x,.inl (ib y)⟩
  ·exact .inl ⟨ma x,.inr (mb y)⟩
  ·exact .inr ⟨mb x,.inl (ia y)⟩
  ·exact .inr ⟨mb x,.inr (ma y)⟩
end
theorem zs8 {L Q:List T} (h:∀u∈L,u∈Q) {t u:T} (hu:u∈yY L t):u∈yY Q t:=by
 unfold yY at hu ⊢;split at hu
 ·rename_i n g hd;split at hu
  ·rename_i hm;rw [if_pos (zlg h n hm)];exact hu
  ·cases hu
 ·cases hu
section
variable {S:AS}
structure Ap (S S':AS) (own own':Nat -> Prop):Prop where
 ro:S'.ro=S.ro
 n:S.n <=S'.n
 h:∀x,x < S.n -> ¬own x -> S'.heap x=S.heap x /\ ¬own' x
def OfR (S:AS) (frame:List T) (r:Option (AV×AS)):Prop:=∃S' M v,r=some (.ptr (S.n+2) 0 0,S') /\ KN S' (S.n+2) S.n (S.n+1) (js [] frame) M v /\ S'.ro=S.ro /\ S.n+3 <=S'.n /\ ∀x,x < S.n -> S'.heap x=S.heap x /\ ¬j5 (S.n+2) S.n (S.n+1) v x
set_option maxHeartbeats 2000000 in
theorem zqV {x0:AV} {frame:List T} (hts:je S x0 frame) (hxn:x0.nrm=x0) (hf:∀t∈frame,t.tidy) (hl:frame.length <=1000) (hS:S.ro <=S.n):OfR S frame (call 257 [x0] S):=by
 have hxr:=hts.reg;have hxl:=hts.len;rw [hxn]at hxl;rw [ym zFG (by simp [hxr]) rfl];obtain ⟨S3,hS3⟩:∃S3,S3=((S.new (.map [])).new (.map [])).new (.rows 3 [[.lst 0 true [],.mp S.n,.mp (S.n+1)]]):=⟨_,rfl⟩;have m1:∀d rg (S:AS),za .mkmap d rg S []=some (.mp S.n,none,S.new (.map [])):=fun _ _ _=>rfl;have hbx:∀d rg,za (.box .heap) d rg ((S.new (.map [])).new (.map [])) [.agg [.lst 0 true [],.mp S.n,.mp (S.n+1)]]=some (.ptr (S.n+2) 0 0,none,S3):=fun d rg=>by rw [hS3];rfl
 have n1:(S.new (.map [])).n=S.n+1:=rfl;have n3:S3.n=S.n+3:=by rw [hS3];rfl
 have r3:S3.ro=S.ro:=by rw [hS3];rfl
 have k0:KN S3 (S.n+2) S.n (S.n+1) [] [] (.lst 0 true []):=by
  refine ⟨?_,?_,?_,by omega,by omega,by omega,by omega,by omega,by omega,by omega,by omega,by omega,.inl ⟨rfl,rfl⟩,fun t ht=>absurd ht (List.not_mem_nil),fun p hp=>absurd hp (List.not_mem_nil)⟩
  ·rw [hS3];exact if_pos rfl
  ·rw [hS3];show (if S.n=S.n+2 then _ else if S.n=S.n+1 then _ else if S.n=S.n then _ else _)=_;rw [if_neg (by omega),if_neg (by omega),if_pos rfl];rfl
  ·rw [hS3];show (if S.n+1=S.n+2 then _ else if S.n+1=S.n+1 then _ else _)=_;rw [if_neg (by omega),if_pos rfl];rfl
 have x3:∀x,x < S.n -> S3.heap x=S.heap x:=fun x hx=>by
  rw [hS3];show (if x=S.n+2 then _ else if x=S.n+1 then _ else if x=S.n then _ else S.heap x)=_;rw [if_neg (by omega),if_neg (by omega),if_neg (by omega)]
 simp only [zhh];simp [zso,m1,n1,hbx,hxr,hxl];refine ko (α:=Nat) (R:=fun _ r=>OfR S frame r)
  (fun q e rg S'=>q <=frame.length /\ NQ [5,13,14,15,16,17,18,19] [5] e /\ e 3=.ptr (S.n+2) 0 0 /\ e 10=x0 /\ e 11=.sc (.int .i64 (frame.length:Nat)) /\ e 12=.sc (.int .i64 (q:Nat)) /\
   ∃M v,KN S' (S.n+2) S.n (S.n+1) (js [] (frame.take q)) M v /\ S'.ro=S.ro /\ S.n+3 <=S'.n /\ ∀x,x < S.n -> S'.heap x=S.heap x /\ ¬j5 (S.n+2) S.n (S.n+1) v x) (fun q=>frame.length - q) (fun _ _ _ _ h=>h.2.1) ?_ 0 _ _ _ ?_
 rotate_left
 ·refine ⟨by omega,?_,by simp,by simp,by simp,by simp,[],.lst 0 true [],k0,r3,by omega,fun x hx=>⟨x3 x hx,?_⟩⟩
  ·repeat (first|exact vx (by simp [hxr])|refine yh ?_ (by simp [hxr]))
  ·rintro (h|h|h|⟨a,b,c,d,h⟩)
   ·omega
   ·omega
   ·omega
   ·cases h
 intro kk hkk q e rg S' ⟨hq,hn,g3,g10,g11,g12,M,v,hK,hr,hnn,hx⟩ ih;by_cases hc:q < frame.length
 ·obtain ⟨t,ht⟩:=jK hc;have w2:IntKind.i64.wrap ((q:Int)+1)=((q+1:Nat):Int):=w64 (by omega);have hcq:(q:Int) < (frame.length:Int):=by omega
  have hln:=@zmQ (frame.take q) [];rw [List.length_take,List.length_nil]at hln;obtain ⟨S4,M4,v4,hcall,hK4,hr4,hn4,hx4⟩:=zm1 hK (hf t (List.mem_of_getElem? ht)) (by omega);rw [<- zsa ht]at hK4;obtain ⟨pt,hpt,hpr,hpl⟩:=hts.at ht;rw [hxn]at hpt;have hpl:=hpl S' (fun id hid=>(hx id hid).1);simp [zlI,g3,g10,g11,g12,hcq,hpt,hpr,hpl,hcall,w2];refine ih (q+1) _ _ _ (by omega) (fun _ h=>h) ?_;refine ⟨by omega,?_,by simp [g3],by simp [g10],by simp [g11],by simp,M4,v4,hK4,hr4.trans hr,by omega,fun x hxx=>?_⟩
  ·repeat (first|exact zaH hn|refine yh ?_ (by simp))
  ·obtain ⟨p1,p2⟩:=hx x hxx;obtain ⟨q1,q2⟩:=hx4 x (by omega) p2;exact ⟨q1.trans p1,q2⟩
 ·have hq':q=frame.length:=by omega
  subst hq';rw [List.take_length]at hK;simp [zlI,g11,g12];rw [hkk];simp [g3];exact ⟨S',M,v,rfl,hK,hr,hnn,hx⟩
theorem zoH {frame:List T} (hf:∀t∈frame,t.tidy) (hl:frame.length <=1000) (hS:S.ro <=S.n):OfR S frame (call 257 [zf frame] S):=zqV zCD (by simp) hf hl hS
def W0:List (Value×AV):=[(.int .i64 3,.agg [.fn 412 [] [],.fn 415 [] []]),(.int .i64 4,.agg [.fn 413 [] [],.fn 414 [] []]),(.int .i64 10,.agg [.fn 414 [] [],.fn 413 [] []])]
theorem zDo (hS:S.ro <=S.n):∃S',call 325 [] S=some (.mp S.n,S') /\ S'.heap S.n=some (.map W0) /\ S'.n=S.n+1 /\ S'.ro=S.ro /\ ∀x,x≠S.n -> S'.heap x=S.heap x:=by
 rw [ym zIg (by simp) rfl];have m1:∀d rg (S:AS),za .mkmap d rg S []=some (.mp S.n,none,S.new (.map [])):=fun _ _ _=>rfl;have ms:∀(es:List (Value×AV)) (k:Int) (v:AV),v.isReg=false -> jq (.int .i64 k) es 0=some none -> ∀(S':AS) d rg,S'.ro <=S.n -> S'.heap S.n=some (.map es) -> za (.mapset false) d rg S' [.mp S.n,.sc (.int .i64 k),v]=some (.junk,none,S'.set S.n (some (.map (es++[(.int .i64 k,v)])))):=fun es k v hv hf S' d rg hro hh=>by
  simp only [za,hro,hv,qm,hh,hf,Option.map_some,and_self,if_true]
 have s1:=ms [] 3 (.agg [.fn 412 [] [],.fn 415 [] []]) rfl rfl (S.new (.map []));have s2:=ms [(.int .i64 3,.agg [.fn 412 [] [],.fn 415 [] []])] 4 (.agg [.fn 413 [] [],.fn 414 [] []]) rfl rfl ((S.new (.map [])).set S.n (some (.map ([]++[(.int .i64 3,.agg [.fn 412 [] [],.fn 415 [] []])]))));have s3:=ms [(.int .i64 3,.agg [.fn 412 [] [],.fn 415 [] []]),(.int .i64 4,.agg [.fn 413 [] [],.fn 414 [] []])] 10 (.agg [.fn 414 [] [],.fn 413 [] []]) rfl rfl (((S.new (.map [])).set S.n (some (.map ([]++[(.int .i64 3,.agg [.fn 412 [] [],.fn 415 [] []])])))).set S.n (some (.map ([(.int .i64 3,.agg [.fn 412 [] [],.fn 415 [] []])]++[(.int .i64 4,.agg [.fn 413 [] [],.fn 414 [] []])]))));have s1':=fun d rg=>s1 d rg hS jw;have s2':=fun d rg=>s2 d rg hS (if_pos rfl);have s3':=fun d rg=>s3 d rg hS (if_pos rfl);refine ⟨(((S.new (.map [])).set S.n (some (.map ([]++[(.int .i64 3,.agg [.fn 412 [] [],.fn 415 [] []])])))).set S.n (some (.map ([(.int .i64 3,.agg [.fn 412 [] [],.fn 415 [] []])]++[(.int .i64 4,.agg [.fn 413 [] [],.fn 414 [] []])])))).set S.n (some (.map ([(.int .i64 3,.agg [.fn 412 [] [],.fn 415 [] []]),(.int .i64 4,.agg [.fn 413 [] [],.fn 414 [] []])]++[(.int .i64 10,.agg [.fn 414 [] [],.fn 413 [] []])]))),?_,?_,?_,?_,?_⟩;rotate_left
 ·exact if_pos rfl
 ·rfl
 ·rfl
 ·intro x hx;show (if x=S.n then _ else if x=S.n then _ else if x=S.n then _ else if x=S.n then _ else S.heap x)=_;simp only [if_neg hx]
 ·simp only [List.nil_append,List.cons_append]at s1' s2' s3';simp [zgv,zpB,m1,s1',s2',s3']
end
def MR (S:AS) (v:AV) (R:List T):Prop:=(R=[] /\ v=.lst 0 true []) \/ ∃id,v=.arr id 3 0 R.length none /\ S.heap id=some (.rows 3 (R.map T.cells)) /\ S.ro <=id /\ id < S.n
def jf (v:AV) (x:Nat):Prop:=∃a b c d,v=.arr x a b c d
section
variable {S:AS} {v:AV} {R:List T}
theorem MR.reg (h:MR S v R):v.isReg=false:=by rcases h with ⟨_,rfl⟩|⟨id,rfl,_⟩<;>rfl
theorem MR.len (h:MR S v R):pev .lenL [v]=some (.sc (.int .i64 (R.length:Nat))):=by
 rcases h with ⟨rfl,rfl⟩|⟨id,rfl,_⟩<;>rfl
theorem MR.keep (h:MR S v R) {S':AS} (hr:S'.ro=S.ro) (hn:S.n <=S'.n) (hh:∀x,x < S.n -> jf v x -> S'.heap x=S.heap x):MR S' v R:=by
 rcases h with h|⟨id,e,h1,h2,h3⟩
 ·exact .inl h
 ·exact .inr ⟨id,e,by rw [hh id h3 ⟨_,_,_,_,e⟩];exact h1,by rw [hr];exact h2,by omega⟩
theorem MR.at (h:MR S v R) {i:Nat} {t:T} (ht:R[i]?=some t):∃p,pev (.iaddr 3) [v,.sc (.int .i64 (i:Int))]=some p /\ p.isReg=false /\ ∀d rg,za (.ld none 3 true) d rg S [p]=some (.agg t.cells,none,S):=by
 have hi:=(List.getElem?_eq_some_iff.1 ht).1;rcases h with ⟨rfl,_⟩|⟨id,rfl,h1,_,_⟩
 ·simp at ht
 ·refine ⟨.ptr id i 0,by simp [pev];omega,rfl,fun d rg=>zf2 h1 (by simp [ht]) (by simp)⟩
theorem zEk {z:Nat} {f:Bool} {g:List T} (hz:g≠[] -> z=3):zv 3 S (.lst z f (g.map T.cells))=some (g.map T.cells):=by
 cases g with
 |nil=>simp [zv]
 |cons a g=>rw [hz (by simp)];simp [zv]
set_option maxHeartbeats 1000000 in
theorem MR.app (h:MR S v R) (hro:S.ro <=S.n) {z:Nat} {f:Bool} {g:List T} (hz:g≠[] -> z=3) (hb:R.length+g.length <=1000000):
 ∃v' S',(∀d rg,za (.append 3 48) d rg S [v,.lst z f (g.map T.cells)]=some (v',none,S')) /\ MR S' v' (R++g) /\ S'.ro=S.ro /\ S.n <=S'.n /\
  ∀x,x < S.n -> ¬jf v x -> S'.heap x=S.heap x /\ ¬jf v' x:=by
 have hrw:=@zEk S z f g hz;cases g with
 |nil=>
  rw [List.map_nil]at hrw ⊢;rcases h with ⟨rfl,rfl⟩|⟨id,rfl,h1,h2,h3⟩
  ·refine ⟨.arr S.n 3 0 0 none,S.new (.rows 3 []),fun d rg=>?_,.inr ⟨S.n,rfl,jw,hro,Nat.lt_succ_self _⟩,rfl,Nat.le_succ _,fun x hx hv=>⟨if_neg (by omega),?_⟩⟩
   ·simp [za,hrw,jd]
   ·rintro ⟨a,b,c,d,e⟩;cases e;omega
  ·refine ⟨.arr id 3 0 R.length none,S,fun d rg=>?_,.inr ⟨id,by simp,by simpa using h1,h2,h3⟩,rfl,Nat.le_refl _,fun x hx hv=>⟨rfl,hv⟩⟩;simp [za,hrw,jd]
 |cons a g=>
  have hem:((a::g).map T.cells).isEmpty=false:=rfl;have hlm:((a::g).map T.cells).length=(a::g).length:=List.length_map _;rcases h with ⟨rfl,rfl⟩|⟨id,rfl,h1,h2,h3⟩
  ·have hb2:(0+(a::g).length) * 48 <=140737488355328:=by simp only [List.length_nil]at hb;omega
   refine ⟨.arr S.n 3 0 (a::g).length none,S.new (.rows 3 ((a::g).map T.cells)),fun d rg=>?_,.inr ⟨S.n,by simp,by simpa using jw,hro,Nat.lt_succ_self _⟩,rfl,Nat.le_succ _,fun x hx hv=>⟨if_neg (by omega),?_⟩⟩
   ·simp only [za,hrw,Option.bind_some,jd,hem,Bool.false_eq_true,if_false,List.isEmpty_nil,Bool.true_or,Bool.true_and,List.length_nil,hlm,List.nil_append,Nat.zero_add];rw [if_pos (by rw [decide_eq_true_eq];omega)];rfl
   ·rintro ⟨a,b,c,d,e⟩;cases e;omega
  ·have hb2:(R.length+(a::g).length) * 48 <=140737488355328:=by omega
   have hlr:(R.map T.cells).length=R.length:=List.length_map _;have htk:(R.map T.cells).take R.length=R.map T.cells:=by rw [<- hlr];exact List.take_length
   refine ⟨.arr S.n 3 0 (R.length+(a::g).length) none,(S.set id none).new (.rows 3 (R.map T.cells++(a::g).map T.cells)),fun d rg=>?_,.inr ⟨S.n,by simp,?_,hro,Nat.lt_succ_self _⟩,rfl,Nat.le_succ _,fun x hx hv=>⟨?_,?_⟩⟩
   ·simp only [za,hrw,Option.bind_some,jd,hem,Bool.false_eq_true,if_false,h1,Nat.zero_add,hlm,hlr];rw [if_neg (by simp;omega),if_neg (by simp),if_pos ⟨trivial,hb2⟩];simp only [htk,Option.map_some]
   ·rw [List.map_append];exact if_pos rfl
   ·show (if x=S.n then _ else (if x=id then none else S.heap x))=_;rw [if_neg (by omega),if_neg (fun e=>hv ⟨_,_,_,_,by rw [e]⟩)]
   ·rintro ⟨a,b,c,d,e⟩;cases e;omega
theorem zBA {t:T}:call 412 [.agg t.cells] S=some (.lst 0 true [],S):=by
 rw [ym zzp (by simp) rfl];simp [zgn,ztt]
theorem zyh {t:T}:call 415 [.agg t.cells] S=some (zf t.kids,S):=by
 rw [ym zyD (by simp) rfl];simp [zig,zoB]
theorem zo8 {t a b:T} (h:t.kids=[a,b]):call 413 [.agg t.cells] S=some (.lst 3 false [a.cells],S):=by
 rw [ym zEZ (by simp) rfl];have e:pev (.sliceL 3 false true false) [zf t.kids,.i 1]=some (.lst 3 false [a.cells]):=by rw [h];rfl
 simp [zjn,zus,e]
theorem zoV {t a b:T} (h:t.kids=[a,b]):call 414 [.agg t.cells] S=some (.lst 3 false [b.cells],S):=by
 rw [ym zGs (by simp) rfl];have e:pev (.sliceL 3 true false false) [zf t.kids,.i 1]=some (.lst 3 false [b.cells]):=by rw [h];rfl
 simp [zgM,zsO,e]
theorem KN.keep {kid i j:Nat} {L:List T} {M:List (ByteArray×Bool)} (h:KN S kid i j L M v) {S':AS} (hr:S'.ro=S.ro) (hn:S.n <=S'.n) (hh:∀x,x < S.n -> j5 kid i j v x -> S'.heap x=S.heap x):KN S' kid i j L M v where
 hk:=by rw [hh kid h.lk (.inl rfl)];exact h.hk
 hi:=by rw [hh i h.li (.inr (.inl rfl))];exact h.hi
 hj:=by rw [hh j h.lj (.inr (.inr (.inl rfl)))];exact h.hj
 rok:=by rw [hr];exact h.rok
 roi:=by rw [hr];exact h.roi
 roj:=by rw [hr];exact h.roj
 ki:=h.ki
 kj:=h.kj
 ij:=h.ij
 lk:=by have:=h.lk;omega
 li:=by have:=h.li;omega
 lj:=by have:=h.lj;omega
 hv:=by
  rcases h.hv with hv|⟨id,e,h1,h2,h3,h4⟩
  ·exact .inl hv
  ·exact .inr ⟨id,e,by rw [hh id h3 (.inr (.inr (.inr ⟨_,_,_,_,e⟩)))];exact h1,by rw [hr];exact h2,by omega,h4⟩
 tidy:=h.tidy
 ok:=h.ok
theorem KN.all {kid i j:Nat} {L:List T} {M:List (ByteArray×Bool)} (h:KN S kid i j L M v) {l:List T} {z:Nat} {f:Bool} (hz:l≠[] -> z=3) (hl:∀t∈l,t.tidy) (hlen:l.length <=4611686018427387904):
 ∃M',KN (St S j M') kid i j L M' v /\ call 326 [.ptr kid 0 0,.lst z f (l.map T.cells)] S=some (.sc (.bool (yE L l)),St S j M'):=by
 obtain ⟨M',hM',hc⟩:=@zji S kid j L l z f hz hlen (fun t ht=>zmG h.ks (t.bulk+1) t (by omega) (hl t ht)) M h.ok;rw [h.st]at hc;exact ⟨M',h.made hM',hc⟩
end
theorem jL {tm tm' rgs:List Nat} {e:Nat -> AV} (h:NQ tm rgs e):NQ tm rgs (fgt tm' e):=by
 intro n;have:=h n;rw [zj1];split
 ·rw [Bool.or_eq_true];right;rfl
 ·exact this
section
variable {S:AS} {v:AV}
theorem KN.mr {kid i j:Nat} {L:List T} {M:List (ByteArray×Bool)} (h:KN S kid i j L M v):MR S v L:=by
 rcases h.hv with hv|⟨id,e,h1,h2,h3,_⟩
 ·exact .inl hv
 ·exact .inr ⟨id,e,h1,h2,h3⟩
inductive zGe (t:T):Prop
 |no (h:vg t=none) (lk:∀(S:AS) (w:Nat),S.heap w=some (.map W0) -> ∀d rg,za (.lookup false (.agg [.sc .nilFunc,.sc .nilFunc]) true) d rg S [.mp w,.sc (.int .i64 t.kind)]=some (.tup [.agg [.sc .nilFunc,.sc .nilFunc],.sc (.bool false)],none,S))
 |yes (k1 k2:Nat) (n g:List T) (z1 z2:Nat) (f1 f2:Bool) (h:vg t=some (n,g)) (lk:∀(S:AS) (w:Nat),S.heap w=some (.map W0) -> ∀d rg,za (.lookup false (.agg [.sc .nilFunc,.sc .nilFunc]) true) d rg S [.mp w,.sc (.int .i64 t.kind)]=some (.tup [.agg [.fn k1 [] [],.fn k2 [] []],.sc (.bool true)],none,S))
  (c1:∀S,call k1 [.agg t.cells] S=some (.lst z1 f1 (n.map T.cells),S)) (c2:∀S,call k2 [.agg t.cells] S=some (.lst z2 f2 (g.map T.cells),S)) (q1:n≠[] -> z1=3) (q2:g≠[] -> z2=3)
theorem zfS {t:T} (h:t.tidy) (hk:kdn t.kind=2):∃a b,t.kids=[a,b]:=by
 have h3:=(T.one_iff.1 ((Bool.and_eq_true _ _▸(t.rshp_def▸h.rshp)):_ /\ _).1).2.2;have:t.kids.length=2:=by omega
 match hl:t.kids,this with
 |[a,b],_=>exact ⟨a,b,rfl⟩
theorem ziX {k:Int} {f:Option (Nat×AV)} (hf:jq (.int .i64 k) W0 0=some f) (S:AS) (w:Nat) (hw:S.heap w=some (.map W0)) (d:Option Nat) (rg:Nat -> Option (List AV)):
 za (.lookup false (.agg [.sc .nilFunc,.sc .nilFunc]) true) d rg S [.mp w,.sc (.int .i64 k)]=some (.tup [wb (.agg [.sc .nilFunc,.sc .nilFunc]) f,.sc (.bool f.isSome)],none,S):=by
 simp only [za,hw,qm,ne_eq,not_true,if_false,Option.bind_some,hf,Option.map_some,if_true]
theorem zy0 {t:T} (h:t.tidy):zGe t:=by
 by_cases h3:t.kind=3
 ·have e:AV.lst (if t.kids=[] then 0 else 3) false (t.kids.map T.cells)=zf t.kids:=by
   unfold zf lstN;cases t.kids<;>simp
  refine .yes 412 415 [] t.kids 0 (if t.kids=[] then 0 else 3) true false (by unfold vg;rw [if_pos h3]) ?_ (fun S=>zBA) (fun S=>by rw [e];exact zyh) (fun h=>absurd rfl h) (fun h=>if_neg h);intro S w hw d rg;rw [h3];exact ziX (f:=some (0,.agg [.fn 412 [] [],.fn 415 [] []])) rfl S w hw d rg
 ·by_cases h4:t.kind=4
  ·obtain ⟨a,b,hab⟩:=zfS h (by rw [h4];rfl);refine .yes 413 414 [a] [b] 3 3 false false (by unfold vg;rw [if_neg h3,if_pos h4,hab];rfl) ?_ (fun S=>zo8 hab) (fun S=>zoV hab) (fun _=>rfl) (fun _=>rfl);intro S w hw d rg;rw [h4];exact ziX (f:=some (1,.agg [.fn 413 [] [],.fn 414 [] []])) rfl S w hw d rg
  ·by_cases h10:t.kind=10
   ·obtain ⟨a,b,hab⟩:=zfS h (by rw [h10];rfl);refine .yes 414 413 [b] [a] 3 3 false false (by unfold vg;rw [if_neg h3,if_neg h4,if_pos h10,hab];rfl) ?_ (fun S=>zoV hab) (fun S=>zo8 hab) (fun _=>rfl) (fun _=>rfl);intro S w hw d rg;rw [h10];exact ziX (f:=some (2,.agg [.fn 414 [] [],.fn 413 [] []])) rfl S w hw d rg
   ·refine .no (by unfold vg;rw [if_neg h3,if_neg h4,if_neg h10]) ?_;intro S w hw d rg;have hf:jq (.int .i64 t.kind) W0 0=some none:=by
     unfold W0;simp only [jq,vh,if_true];have e1:(t.kind==3)=false:=by simp [h3]
     have e2:(t.kind==4)=false:=by simp [h4]
     have e3:(t.kind==10)=false:=by simp [h10]
     rw [e1,e2,e3]
    exact ziX hf S w hw d rg
structure RdW (S:AS) (kid i j w:Nat) (L:List T) (M:List (ByteArray×Bool)) (v:AV):Prop where
 kn:KN S kid i j L M v
 hw:S.heap w=some (.map W0)
 lw:w < S.n
 nw:¬j5 kid i j v w
 lo:∀x,x < i -> ¬j5 kid i j v x
theorem RdW.ro {kid i j w:Nat} {L:List T} {M:List (ByteArray×Bool)} (h:RdW S kid i j w L M v):S.ro <=S.n:=by have:=h.kn.rok;have:=h.kn.lk;omega
theorem RdW.made {kid i j w:Nat} {L:List T} {M M':List (ByteArray×Bool)} (h:RdW S kid i j w L M v) (h':KN (St S j M') kid i j L M' v):RdW (St S j M') kid i j w L M' v:=
 ⟨h',(vN (fun e=>h.nw (.inr (.inr (.inl e))))).trans h.hw,h.lw,h.nw,h.lo⟩
theorem flat_take {α β:Type} {f:α -> List β} {l:List α} {q:Nat} {t:α} (h:l[q]?=some t):(l.take (q+1)).flatMap f=(l.take q).flatMap f++f t:=by
 rw [List.take_add_one,h];simp
theorem zra {f:T -> List T} {b:Nat}:∀{l:List T},(∀t∈l,(f t).length <=b) -> (l.flatMap f).length <=l.length * b
 |[],_=>by simp
 |a::l,h=>by
  have h1:=h a List.mem_cons_self;have h2:=@zra f b l fun t ht=>h t (List.mem_cons_of_mem _ ht);rw [List.flatMap_cons,List.length_append,List.length_cons,Nat.succ_mul];omega
theorem zA3 {L:List T} {t:T}:(yY L t).length <=t.kids.length:=by
 unfold yY;split
 ·rename_i n g hd;split
  ·unfold vg at hd;split at hd
   ·cases hd;exact Nat.le_refl _
   ·split at hd
    ·cases hd;simp
    ·split at hd
     ·cases hd;rw [List.length_take];omega
     ·cases hd
  ·simp
 ·simp
end
abbrev N8 (e:Nat -> AV):Prop:=NQ [8,9,10,34,35,36,37,38,39,40,41,42,43,44,45,46,47,48,49,50,51,52,53,54,55,56,57,58,59] [8,9] e
abbrev N12 (e:Nat -> AV):Prop:=NQ [12,63,64,65,66,67,68,69] [12] e
abbrev NA (e:Nat -> AV):Prop:=NQ [6,8,9,10,12,16,17,18,19,20,21,22,23,24,25,26,27,28,29,30,31,32,33,34,35,36,37,38,39,40,41,42,43,44,45,46,47,48,49,50,51,52,53,54,55,56,57,58,59,60,61,62,63,64,65,66,67,68,69] [8,9,12] e
structure AnP (frame U L:List T):Prop where
 nodup:L.Nodup
 has:∀t∈frame,t∈L
 sub:∀t∈L,t∈U
 least:∀Q:List T,(∀t∈frame,t∈Q) -> (∀t∈Q,∀u∈yY Q t,u∈Q) -> ∀t∈L,t∈Q
def AnR (frame U:List T) (n0:Nat) (r:Option (AV×AS)):Prop:=∃S' M v kid i j L,r=some (.ptr kid 0 0,S') /\ KN S' kid i j L M v /\ AnP frame U L /\ (∀t∈L,∀u∈yY L t,u∈L) /\ ∀x,x < n0 -> ¬j5 kid i j v x
structure UOk (U:List T):Prop where
 tidy:∀t∈U,t.tidy
 kids:∀t∈U,∀u∈t.kids,u∈U
 len:U.length <=1000
 klen:∀t∈U,t.kids.length <=500
theorem AnP.more {frame U L:List T} (h:AnP frame U L) (hU:UOk U):AnP frame U (js L (L.flatMap (yY L))) where
 nodup:=zqX h.nodup
 has:=fun t ht=>zcJ.2 (.inl (h.has t ht))
 sub:=fun t ht=>by
  rcases zcJ.1 ht with ht|ht
  ·exact h.sub t ht
  ·obtain ⟨u,hu,ht⟩:=List.mem_flatMap.1 ht;exact hU.kids u (h.sub u hu) t (ztp ht)
 least:=fun Q h1 h2 t ht=>by
  rcases zcJ.1 ht with ht|ht
  ·exact h.least Q h1 h2 t ht
  ·obtain ⟨u,hu,ht⟩:=List.mem_flatMap.1 ht;exact h2 u (h.least Q h1 h2 u hu) t (zs8 (h.least Q h1 h2) ht)
def zpD (U:List T) (a:List T×Int):Nat:=2 * (U.length - a.1.length)+(if a.2 < (a.1.length:Int) then 1 else 0)
section
variable {S:AS}
set_option maxHeartbeats 16000000 in
set_option maxRecDepth 100000 in
theorem zsD {x0:AV} {frame U:List T} (hts:je S x0 frame) (hxn:x0.nrm=x0) (hU:UOk U) (hf:∀t∈frame,t∈U) (hfl:frame.length <=1000) (hS:S.ro <=S.n):AnR frame U S.n (call 230 [x0] S):=by
 have hxr:=hts.reg;rw [ym zIY (by simp [hxr]) rfl];obtain ⟨S1,M1,v1,e257,k1,r1,n1,x1⟩:=zqV hts hxn (fun t ht=>hU.tidy t (hf t ht)) hfl hS;obtain ⟨S2,e325,w2,n2,r2,x2⟩:=@zDo S1 (by rw [r1];omega);have k2:KN S2 (S.n+2) S.n (S.n+1) (js [] frame) M1 v1:=k1.keep (by rw [r2]) (by omega) fun x hx _=>x2 x (by omega);have d2:RdW S2 (S.n+2) S.n (S.n+1) S1.n (js [] frame) M1 v1:=⟨k2,w2,by omega,by
  rintro (h|h|h|⟨a,b,c,d,h⟩)
  ·omega
  ·omega
  ·omega
  ·rcases k1.hv with ⟨_,e⟩|⟨id,e,_,_,hl,_⟩
   ·rw [e]at h;cases h
   ·rw [e]at h;cases h;omega,fun x hx=>(x1 x hx).2⟩
 have p2:AnP frame U (js [] frame):=⟨zqX List.nodup_nil,fun t ht=>zcJ.2 (.inr ht),fun t ht=>by
  rcases zcJ.1 ht with h|h
  ·cases h
  ·exact hf t h,fun Q h1 _ t ht=>by
  rcases zcJ.1 ht with h|h
  ·cases h
  ·exact h1 t h⟩
 generalize S.n+2=kid at *;generalize hii:S.n=i at *;generalize i+1=j at *;generalize S1.n=w at *;simp only [zg2];simp [zqJ,e257,e325,hxr];refine ko (α:=List T×Int) (R:=fun _ r=>AnR frame U i r) (fun a e rg S'=>NA e /\ N8 e /\ N12 e /\ e 3=.ptr kid 0 0 /\ e 4=.mp w /\ e 5=.sc (.int .i64 a.2) /\ AnP frame U a.1 /\ (∃M v,RdW S' kid i j w a.1 M v) /\ a.2 <=a.1.length /\ (a.2= -1 \/ ∃Lp:List T,a.2=Lp.length /\ a.1=js Lp (Lp.flatMap (yY Lp)))) (zpD U) (fun _ _ _ _ h=>h.1) ?_ (js [] frame,-1) _ _ _ ?_;rotate_left
 ·refine ⟨?_,?_,?_,by simp,by simp,by simp,p2,⟨M1,v1,d2⟩,by simp only;omega,.inl rfl⟩<;>
  repeat (first|exact vx (by simp [hxr])|refine yh ?_ (by simp [hxr]))
 intro kk hkk ⟨L,was⟩ e rg S' ⟨hna,h8,h12,g3,g4,g5,hp,⟨M,v,hd⟩,hw1,hw2⟩ ih;simp only at g5 hp hd hw1 hw2;have hK:=hd.kn;have hLU:=zfJ hp.nodup hp.sub;have hUl:=hU.len;have hld:∀d rg,za (.ld none 1 false) d rg S' [.ptr kid 0 0]=some (v,none,S'):=fun d rg=>by
  rw [yg hK.hk];simp [yM]
 have hlen:=hK.len;have hvr:=hK.reg;by_cases hc:was < (L.length:Int)
 ·simp [zkt,g3,g4,g5,hld,hlen,hvr,hc];have hRl:∀q,((L.take q).flatMap (yY L)).length <=500000:=fun q=>by
   have h1:=@zra (yY L) 500 (L.take q) fun t ht=>Nat.le_trans zA3 (hU.klen t (hp.sub t (List.mem_of_mem_take ht)));have h2:(L.take q).length <=L.length:=by rw [List.length_take];omega
   have h3:(L.take q).length * 500 <=1000 * 500:=Nat.mul_le_mul_right _ (by omega);omega
  refine ko (α:=Nat) (R:=fun _ r=>AnR frame U i r) (fun q e rg S''=>q <=L.length /\ N8 e /\ NA e /\ N12 e /\ e 3=.ptr kid 0 0 /\ e 4=.mp w /\ e 5=.sc (.int .i64 (L.length:Nat)) /\ e 31=v /\ e 32=.sc (.int .i64 (L.length:Nat)) /\ e 33=.sc (.int .i64 (q:Nat)) /\
   ∃M,RdW S'' kid i j w L M v /\ MR S'' (e 6) ((L.take q).flatMap (yY L)) /\ ∀x,jf (e 6) x -> ¬j5 kid i j v x /\ x≠w) (fun q=>L.length - q) (fun _ _ _ _ h=>h.2.1) ?_ 0 _ _ _ ?_
  rotate_left
  ·refine ⟨by omega,?_,?_,?_,by simp [g3],by simp [g4],by simp,by simp,by simp,by simp,M,hd,by simpa using .inl ⟨rfl,rfl⟩,?_⟩
   ·repeat (first|exact jL h8|refine yh ?_ (by simp [hvr]))
   ·repeat (first|exact jL hna|refine yh ?_ (by simp [hvr]))
   ·repeat (first|exact jL h12|refine yh ?_ (by simp [hvr]))
   ·rintro x ⟨a,b,c,d,e⟩;simp at e
  intro kk1 hkk1 q e1 rg1 S2' ⟨hq,n8,nA,n12,u3,u4,u5,u31,u32,u33,M2,hd2,hm2,hx2⟩ ih1;have hK2:=hd2.kn;by_cases hcq:q < L.length
  ·obtain ⟨t,ht⟩:=jK hcq;have htm:=List.mem_of_getElem? ht;have hty:=hU.tidy t (hp.sub t htm);have w2:IntKind.i64.wrap ((q:Int)+1)=((q+1:Nat):Int):=w64 (by omega);have hcq':(q:Int) < (L.length:Int):=by omega
   obtain ⟨p,a1,a2,a3⟩:=hK2.mr.at ht;have hRq:=hRl q;have hRq1:=hRl (q+1);have hft:=@flat_take T T (yY L) L q t ht;have hmr:=hm2.reg;rcases zy0 hty with ⟨hdec,lk⟩|⟨c1,c2,n,g,z1,z2,f1,f2,hdec,lk,e1c,e2c,q1,q2⟩
   ·have hm0:yY L t=[]:=by unfold yY;rw [hdec]
    rw [hm0,List.append_nil]at hft;have lk':=lk S2' w hd2.hw;simp [zfC,u3,u4,u31,u32,u33,hcq',a1,a2,a3,lk',w2];refine ih1 (q+1) _ _ _ (by omega) (fun _ h=>h) ?_;refine ⟨by omega,?_,?_,?_,by simp [u3],by simp [u4],by simp [u5],by simp [u31],by simp [u32],by simp,M2,hd2,by rw [hft];simpa using hm2,by simpa using hx2⟩
    ·repeat (first|exact jL n8|refine yh ?_ (by simp [a2]))
    ·repeat (first|exact jL nA|refine yh ?_ (by simp [a2]))
    ·repeat (first|exact jL n12|refine yh ?_ (by simp [a2]))
   ·have hkk':=zox hdec;have hnt:∀u∈n,u.tidy:=fun u hu=>hty.kid (hkk'.1 u hu);have hnl:n.length <=4611686018427387904:=by
     have h1:=t.bulk_len;have h2:=hty.bulk;have:n.length <=t.kids.length:=by
      unfold vg at hdec;split at hdec
      ·cases hdec;simp
      ·split at hdec
       ·cases hdec;rw [List.length_take];omega
       ·split at hdec
        ·cases hdec;simp
        ·cases hdec
     omega
    obtain ⟨M3,hK3,hall⟩:=hK2.all q1 hnt hnl (f:=f1);have lk':=lk S2' w hd2.hw;have hd3:=hd2.made hK3;have hm3:MR (St S2' j M3) (e1 6) ((L.take q).flatMap (yY L)):=hm2.keep rfl (Nat.le_refl _) fun x _ hx=>vN (fun e=>(hx2 x hx).1 (.inr (.inr (.inl e))));cases hb:yE L n with
    |false=>
     rw [hb]at hall;have hm0:yY L t=[]:=by unfold yY;rw [hdec];simp [hb]
     rw [hm0,List.append_nil]at hft;simp [zfC,u3,u4,u31,u32,u33,hcq',a1,a2,a3,lk',e1c,hall,w2];refine ih1 (q+1) _ _ _ (by omega) (fun _ h=>h) ?_;refine ⟨by omega,?_,?_,?_,by simp [u3],by simp [u4],by simp [u5],by simp [u31],by simp [u32],by simp,M3,hd3,by rw [hft];simpa using hm3,by simpa using hx2⟩
     ·repeat (first|exact jL n8|refine yh ?_ (by simp [a2]))
     ·repeat (first|exact jL nA|refine yh ?_ (by simp [a2]))
     ·repeat (first|exact jL n12|refine yh ?_ (by simp [a2]))
    |true=>
     rw [hb]at hall;have hm0:yY L t=g:=by unfold yY;rw [hdec];simp [hb]
     rw [hm0]at hft;have hgl:((L.take q).flatMap (yY L)).length+g.length <=1000000:=by
      rw [hft,List.length_append]at hRq1;omega
     obtain ⟨v6,S4,hap,hm4,r4,n4,x4⟩:=hm3.app (f:=f2) hd3.ro q2 hgl;have hv6r:=hm4.reg;have hd4:RdW S4 kid i j w L M3 v:=⟨hK3.keep r4 n4 fun x hx hk=>(x4 x hx fun ha=>(hx2 x ha).1 hk).1,by
      rw [(x4 w hd3.lw fun ha=>(hx2 w ha).2 rfl).1];exact hd3.hw,by have:=hd3.lw;omega,hd3.nw,hd3.lo⟩
     simp [zfC,u3,u4,u31,u32,u33,hcq',a1,a2,a3,lk',e1c,e2c,hall,hap,hmr,hv6r,w2];refine ih1 (q+1) _ _ _ (by omega) (fun _ h=>h) ?_;refine ⟨by omega,?_,?_,?_,by simp [u3],by simp [u4],by simp [u5],by simp [u31],by simp [u32],by simp,M3,hd4,by rw [hft];simpa using hm4,?_⟩
     ·repeat (first|exact jL n8|refine yh ?_ (by simp [a2,hmr,hv6r]))
     ·repeat (first|exact jL nA|refine yh ?_ (by simp [a2,hmr,hv6r]))
     ·repeat (first|exact jL n12|refine yh ?_ (by simp [a2,hmr,hv6r]))
     ·intro x hx;have hx:jf v6 x:=by simpa using hx
      refine ⟨fun hk=>?_,?_⟩
      ·have hlt:x < (St S2' j M3).n:=by
        rcases hk with e|e|e|⟨a,b,c,d,e⟩
        ·rw [e];exact hd3.kn.lk
        ·rw [e];exact hd3.kn.li
        ·rw [e];exact hd3.kn.lj
        ·rcases hd3.kn.hv with ⟨_,e'⟩|⟨id,e',_,_,hl,_⟩
         ·rw [e']at e;cases e
         ·rw [e']at e;cases e;exact hl
       exact (x4 x hlt fun ha=>(hx2 x ha).1 hk).2 hx
      ·rintro rfl;exact (x4 x hd3.lw fun ha=>(hx2 x ha).2 rfl).2 hx
  ·have hq':q=L.length:=by omega
   subst hq';rw [List.take_length]at hm2;have hRL:=hRl L.length;rw [List.take_length]at hRL;generalize hRR:L.flatMap (yY L)=RR at *;have hlen6:=hm2.len;have hmr:=hm2.reg;simp [zfC,u32,u33];rw [hkk1];clear hkk1 ih1;simp [u3,u4,u5,hlen6,hmr];obtain ⟨v6,hv6⟩:∃v6,v6=e1 6:=⟨_,rfl⟩;rw [<- hv6]at hm2 hx2 hlen6 hmr;refine ko (α:=Nat) (R:=fun _ r=>AnR frame U i r) (fun q e rg S''=>q <=RR.length /\ N12 e /\ NA e /\ N8 e /\ e 3=.ptr kid 0 0 /\ e 4=.mp w /\ e 5=.sc (.int .i64 (L.length:Nat)) /\ e 60=v6 /\ e 61=.sc (.int .i64 (RR.length:Nat)) /\ e 62=.sc (.int .i64 (q:Nat)) /\
    ∃M v,RdW S'' kid i j w (js L (RR.take q)) M v /\ MR S'' v6 RR /\ ∀x,jf v6 x -> ¬j5 kid i j v x /\ x≠w) (fun q=>RR.length - q) (fun _ _ _ _ h=>h.2.1) ?_ 0 _ _ _ ?_
   rotate_left
   ·refine ⟨by omega,?_,?_,?_,by simp [u3],by simp [u4],by simp [u5],by simp [hv6],by simp,by simp,M2,v,hd2,hm2,hx2⟩
    ·repeat (first|exact jL n12|refine yh ?_ (by simp [<- hv6,hmr]))
    ·repeat (first|exact jL nA|refine yh ?_ (by simp [<- hv6,hmr]))
    ·repeat (first|exact jL n8|refine yh ?_ (by simp [<- hv6,hmr]))
   clear hm2 hx2 hd2 hK2;intro kk0 hkk0 q e2 rg2 S3' ⟨hq,n12,nA,n8,u3,u4,u5,u60,u61,u62,M3,v3,hd3,hm3,hx3⟩ ih0;by_cases hc0:q < RR.length
   ·obtain ⟨t,ht⟩:=jK hc0;have htU:t∈U:=by
     have htm:=List.mem_of_getElem? ht;rw [<- hRR]at htm;obtain ⟨u,hu,h⟩:=List.mem_flatMap.1 htm;exact hU.kids u (hp.sub u hu) t (ztp h)
    have w2:IntKind.i64.wrap ((q:Int)+1)=((q+1:Nat):Int):=w64 (by omega);have hcq':(q:Int) < (RR.length:Int):=by omega
    obtain ⟨p,a1,a2,a3⟩:=hm3.at ht;have hal:=@zmQ (RR.take q) L;rw [List.length_take]at hal;obtain ⟨S4,M4,v4,hcall,hK4,r4,n4,x4⟩:=zm1 hd3.kn (hU.tidy t htU) (by omega);rw [<- zsa ht]at hK4;have hxw:=x4 w hd3.lw hd3.nw;simp [zj3,u3,u60,u61,u62,hcq',a1,a2,a3,hcall,w2];refine ih0 (q+1) _ _ _ (by omega) (fun _ h=>h) ?_;refine ⟨by omega,?_,?_,?_,by simp [u3],by simp [u4],by simp [u5],by simp [u60],by simp [u61],by simp,M4,v4,⟨hK4,hxw.1.trans hd3.hw,by have:=hd3.lw;omega,hxw.2,fun x hx=>(x4 x (by have:=hd3.kn.li;omega) (hd3.lo x hx)).2⟩,hm3.keep r4 n4 fun x hx ha=>(x4 x hx (hx3 x ha).1).1,fun x ha=>⟨?_,(hx3 x ha).2⟩⟩
    ·repeat (first|exact jL n12|refine yh ?_ (by simp [a2]))
    ·repeat (first|exact jL nA|refine yh ?_ (by simp [a2]))
    ·repeat (first|exact jL n8|refine yh ?_ (by simp [a2]))
    ·have hlt:x < S3'.n:=by
      obtain ⟨a,b,c,d,e⟩:=ha;rcases hm3 with ⟨_,e'⟩|⟨id,e',_,_,hl⟩
      ·rw [e']at e;cases e
      ·rw [e']at e;cases e;exact hl
     exact (x4 x hlt (hx3 x ha).1).2
   ·have hq':q=RR.length:=by omega
    subst hq';rw [List.take_length]at hd3;simp [zj3,u61,u62];rw [hkk0];simp;have hpm:=hp.more hU;rw [hRR]at hpm;have hLU':=zfJ hpm.nodup hpm.sub;have hal:=@zmQ RR L;refine ih (js L RR,(L.length:Int)) _ _ _ ?_ (fun _ h=>h) ?_
    ·unfold zpD;simp only;rw [if_pos hc];split<;>omega
    ·refine ⟨?_,?_,?_,by simp [u3],by simp [u4],by simp [u5],hpm,⟨M3,v3,hd3⟩,by simp only;omega,.inr ⟨L,rfl,by simp only [hRR]⟩⟩
     ·repeat (first|exact jL nA|exact nA|refine yh ?_ (by simp))
     ·repeat (first|exact jL n8|exact n8|refine yh ?_ (by simp))
     ·repeat (first|exact jL n12|exact n12|refine yh ?_ (by simp))
 ·simp [zkt,g3,g4,g5,hld,hlen,hvr,hc];rw [hkk];simp [g3];have hwas:was=(L.length:Int):=by omega
  refine ⟨S',M,v,kid,i,j,L,rfl,hK,hp,?_,hd.lo⟩;rcases hw2 with h|⟨Lp,h1,h2⟩
  ·omega
  ·have hLp:L=Lp:=by
    have:=zwo (L:=Lp) (m:=Lp.flatMap (yY Lp)) (by rw [<- h2];omega);rw [<- this];exact h2
   intro t ht u hu;rw [h2];rw [hLp]at ht hu;exact zcJ.2 (.inr (List.mem_flatMap.2 ⟨t,ht,hu⟩))
end
section
variable {S:AS}
end
structure Ck.bd (c:Ck):Prop where
 client:c.client.size+1 <=140737488355328
 nonce:c.nonce.size+1 <=140737488355328
 done:c.done.length * 48 <=140737488355328
 names:∀s∈c.done,s.size+1 <=140737488355328
 upto:inI c.upto
 secret:c.secret.bd 140737488355328
 ofit:c.secret.ofit
section
variable {S:AS}
theorem zug {key:T} {c:Ck} (hk:key.fit=true) (hs:c.secret.fit=true):yC key c=jm key (zO (jC c)):=by
 unfold yC;rw [hk,hs];rfl
theorem wZ {k:Int} {n:ByteArray} {l:List T}:(T.mk k n l).bulk=n.size+yi l+4:=by rw [T.bulk];omega
theorem jt:yi []=0:=by rw [yi]
theorem yz {t:T} {l:List T}:yi (t::l)=t.bulk+yi l:=by rw [yi]
theorem n0:(⟨#[]⟩:ByteArray).size=0:=rfl
theorem zdF {s:ByteArray}:(zJ s).bulk=s.size+4:=by unfold zJ;rw [wZ,jt]
theorem zdl {s:ByteArray}:(ze s).bulk=s.size+4:=by unfold ze;rw [wZ,jt]
theorem zf6 {l:List T}:(zO l).bulk=yi l+4:=by unfold zO;rw [wZ,n0];omega
theorem zoZ {a b:T}:(jm a b).bulk=a.bulk+b.bulk+4:=by unfold jm;rw [wZ,n0,yz,yz,jt];omega
def kF:List ByteArray -> Nat
 |[]=>0
 |s::l=>s.size+5+kF l
theorem zoS:∀{l:List ByteArray},yi (y0 l)=kF l
 |[]=>jt
 |s::l=>by
  have e:y0 (s::l)=zJ (⟨#[100]⟩++s)::y0 l:=rfl;rw [e,yz,zdF,zoS,ByteArray.size_append,kF];have:(⟨#[100]⟩:ByteArray).size=1:=rfl;omega
theorem zDQ {c:Ck} (h:inI c.upto):yi (jC c) <=c.client.size+c.nonce.size+kF c.done+c.secret.bulk+100:=by
 have h9:=wI h.1 h.2;have n6:(⟨#[99,111,111,107,105,101]⟩:ByteArray).size=6:=rfl;have e1:(⟨#[99]⟩:ByteArray).size=1:=rfl;have e2:(⟨#[110]⟩:ByteArray).size=1:=rfl;have e3:(⟨#[117]⟩:ByteArray).size=1:=rfl;unfold jC;rw [yz,yz,yz,yz,yz,yz,jt,zdF,zdF,zdF,zdF,zf6,zoS,ByteArray.size_append,ByteArray.size_append,ByteArray.size_append];omega
theorem zxw {key:T} {c:Ck} (h:inI c.upto):(yC key c).bulk <=key.bulk+c.client.size+c.nonce.size+kF c.done+c.secret.bulk+200:=by
 unfold yC;split
 ·have:=zDQ h;rw [zoZ,zf6];omega
 ·unfold qM;rw [wZ,n0,jt];omega
end
structure jP (frame U L:List T):Prop where
 has:∀t∈frame,t∈L
 sub:∀t∈L,t∈U
 least:∀Q:List T,(∀t∈frame,t∈Q) -> (∀t∈Q,∀u∈yY Q t,u∈Q) -> ∀t∈L,t∈Q
 closed:∀t∈L,∀u∈yY L t,u∈L
section
variable {S:AS}
theorem ztn {x0:AV} {frame U:List T} {t:T} {b:Bool} (hts:je S x0 frame) (hU:UOk U) (hf:∀t∈frame,t∈U) (hfl:frame.length <=1000) (ht:t.tidy) (hb:∀L,jP frame U L -> mkP L t=b):call 129 [x0,.agg t.cells] S=some (.sc (.bool b),S):=by
 rw [wR zFn (args':=[x0.nrm,.agg t.cells]) (by simp [hts.reg]) (by simp) rfl];obtain ⟨S',M,v,kid,i,j,L,e230,hK,hp,hcl,_⟩:=@zsD ⟨S.heap,S.n,S.n⟩ x0.nrm frame U hts.nrm.ro hts.nn hU hf hfl (Nat.le_refl _);obtain ⟨M',hM',hc⟩:=zlJ hK.ks ht hK.ok;rw [hK.st,hb L ⟨hp.has,hp.sub,hp.least,hcl⟩]at hc;have hr:=hts.nrm.reg;simp [f129,znA,e230,hc,hr]
end
end Abs
