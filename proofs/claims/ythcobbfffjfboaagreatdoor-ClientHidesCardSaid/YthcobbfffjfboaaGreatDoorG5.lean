/- Mechanisms, plainly: what is made is taken. -/
import Derived.Test.YthcobbfffjfboaaGreatDoorG4
import Derived.Test.YthcobbfffjfboaaGreatDoorG2
import Derived.Test.YthcobbfffjfboaaGreatDoorG3
set_option linter.unusedVariables false
set_option linter.unusedSimpArgs false
set_option linter.unusedSectionVars false
namespace Abs
open Go
instance:DecidableEq T:=fun a b=>decidable_of_iff (a.same b=true) T.same_iff
theorem zeI {a b:T} (h:a≠b):a.same b=false:=by rw [Bool.eq_false_iff];exact fun e=>h (T.same_iff.1 e)
theorem zkG {p x y:ByteArray} (h:p++x=p++y):x=y:=by
 have:=congrArg (fun b=>b.data.toList) h;simp only [ByteArray.data_append,Array.toList_append,List.append_cancel_left_eq]at this;exact kw this
theorem zxJ {a b:T}:z8 a=z8 b↔a=b:=by simp [z8]
theorem zmM {a b:T} {m n:ByteArray}:jr a m=jr b n↔a=b /\ m=n:=by simp [jr,and_comm]
theorem zrh {m n:ByteArray}:ze m=ze n↔m=n:=by simp [ze]
theorem zwa {a b:T} {m n:Int} (hm:inI m) (hn:inI n):yP a m=yP b n↔a=b /\ m=n:=by
 unfold yP;rw [zmM];exact ⟨fun h=>⟨h.1,ziH hm hn (zkG h.2)⟩,fun h=>⟨h.1,by rw [h.2]⟩⟩
theorem zsH {a b:T} {m n:Int} (hm:inI m) (hn:inI n):yT a m=yT b n↔a=b /\ m=n:=by
 unfold yT;rw [zmM];exact ⟨fun h=>⟨h.1,ziH hm hn (zkG h.2)⟩,fun h=>⟨h.1,by rw [h.2]⟩⟩
theorem zzP {a b c d:T} {f g:ByteArray}:qq a b f g=qq c d f g↔a=c /\ b=d:=by simp [qq,z8,zO,jr]
theorem zHc {a b c d:T}:tCk a b=tCk c d↔a=c /\ b=d:=zzP
theorem zCc {a b:T}:tWd a=tWd b↔a=b:=by simp [tWd,jr]
theorem zjp {k t:T} {n:Int}:jl k n (yG k n t)=(t,0):=by
 unfold jl;rw [if_pos (show (yG k n t).kind=4 from rfl)];show (if (yP k n).same (yP k n) then (t,(0:Int)) else (tZ,4))=_;rw [T.same_self];rfl
theorem zAn {k k' t:T} {n:Int} (hn:inI n) (h:k≠k'):jl k' n (yG k n t)=(tZ,4):=by
 unfold jl;rw [if_pos (show (yG k n t).kind=4 from rfl)];show (if (yP k n).same (yP k' n) then (t,(0:Int)) else (tZ,4))=_;rw [zeI (fun e=>h ((zwa hn hn).1 e).1)];rfl
theorem zAC:zP≠⟨#[]⟩:=by decide
theorem zHk:zaL≠⟨#[]⟩:=by decide
theorem zn1:zG≠⟨#[]⟩:=by decide
theorem zGU:wz≠⟨#[]⟩:=by decide
theorem ztY:zL≠⟨#[]⟩:=by decide
theorem zoC {a u b a' u' b':T} {now at':Int} (hn:inI now) (h18:(zq now).size <=18):zcL a' u' b' (wJ a u b now) at'=if a=a' /\ u=u' then (if b=b' then (if (now - at').natAbs > 5 then 5 else 0) else 6) else 6:=by
 unfold zcL wJ;rw [vH (n:=1) zAC rfl];simp only;by_cases h:a=a' /\ u=u'
 ·rw [if_pos h];obtain ⟨rfl,rfl⟩:=h;rw [zjp];unfold zic zax;simp only;rw [if_neg (by decide),if_pos trivial,vH (n:=2) zHk rfl];simp only [zhN];rw [zsu hn h18];simp only [zgJ];by_cases hb:b=b'
  ·rw [if_pos hb,hb,T.same_self];simp
  ·rw [if_neg hb,zeI (fun e=>hb (zxJ.1 e))];simp
 ·rw [if_neg h,zAn i54 (fun e=>h (zHc.1 e))];rfl
theorem zIH {ak n c:T}:za0 ak (wH n) c=(zas ak n c,0):=by
 unfold za0 wH;rw [vH (n:=1) zn1 rfl]
theorem zsf {u u' x:T}:jX u' (ye x u)=if u=u' then (x,0) else (tZ,6):=by
 unfold jX;rw [if_pos (show (ye x u).kind=10 from rfl)];show qZ u' (tWd u) (zZ x)=_;unfold qZ;rw [if_pos (show (zZ x).kind=8 from rfl)];show (if (tWd u).same (tWd u') then (x,(0:Int)) else (tZ,6))=_;by_cases h:u=u'
 ·subst h;rw [T.same_self];simp
 ·rw [zeI (fun e=>h (zCc.1 e)),if_neg h];simp
theorem ztL {u u' b x y:T}:zcY u' b (wS u y) x=if u=u' then (zj zL [ye x u,vL x y u (ye y u) (ye x u) b],vw x y u (ye y u) (ye x u) b 0,0) else (tZ,tZ,6):=by
 unfold zcY wS;rw [vH (n:=1) ztY rfl];simp only;rw [zsf];by_cases h:u=u'
 ·subst h;rw [if_pos rfl,if_pos rfl];unfold zkZ;rw [if_pos rfl]
 ·rw [if_neg h,if_neg h];rfl
theorem zwE {u x f u' b' y':T}:zbj u' b' y' (zj zL [ye x u,f])=if u=u' then (if f.same (vL x y' u (ye y' u) (ye x u) b') then (vw x y' u (ye y' u) (ye x u) b' 0,0) else (tZ,6)) else (tZ,6):=by
 unfold zbj;rw [vH (n:=2) ztY rfl];simp only;rw [zsf];by_cases h:u=u'
 ·subst h;rw [if_pos rfl,if_pos rfl];unfold zfK;rw [if_pos rfl]
 ·rw [if_neg h,if_neg h];rfl
section
variable {S:AS}
end
structure Fv where
 ak:T
 user:T
 body:T
 x:T
 y:T
def Fv.cells (f:Fv):List AV:=f.ak.cells++(f.user.cells++(f.body.cells++(f.x.cells++f.y.cells)))
theorem Fv.cells_def {f:Fv}:f.cells=[.sc (.int .i64 f.ak.kind),.sc (.string f.ak.name),zf f.ak.kids,.sc (.int .i64 f.user.kind),.sc (.string f.user.name),zf f.user.kids,.sc (.int .i64 f.body.kind),.sc (.string f.body.name),zf f.body.kids,
 .sc (.int .i64 f.x.kind),.sc (.string f.x.name),zf f.x.kids,.sc (.int .i64 f.y.kind),.sc (.string f.y.name),zf f.y.kids]:=by
 unfold Fv.cells;rw [zu f.ak,zu f.user,zu f.body,zu f.x,zu f.y];rfl
section
variable {f:Fv}
@[simp] theorem Fv.len:f.cells.length=15:=by rw [Fv.cells_def];rfl
@[simp] theorem Fv.t0:f.cells.take 3=f.ak.cells:=by rw [Fv.cells_def,zu f.ak];rfl
@[simp] theorem Fv.t3:(f.cells.drop 3).take 3=f.user.cells:=by rw [Fv.cells_def,zu f.user];rfl
@[simp] theorem Fv.t6:(f.cells.drop 6).take 3=f.body.cells:=by rw [Fv.cells_def,zu f.body];rfl
@[simp] theorem Fv.t9:(f.cells.drop 9).take 3=f.x.cells:=by rw [Fv.cells_def,zu f.x];rfl
@[simp] theorem Fv.t12:(f.cells.drop 12).take 3=f.y.cells:=by rw [Fv.cells_def,zu f.y];rfl
@[simp] theorem Fv.t12':f.cells.drop 12=f.y.cells:=by rw [Fv.cells_def,zu f.y];rfl
@[simp] theorem Fv.t15:f.cells.take 15=f.cells:=by rw [Fv.cells_def];rfl
@[simp] theorem Fv.dr15:f.cells.drop 15=[]:=by rw [Fv.cells_def];rfl
@[simp] theorem Fv.nrm:yU f.cells=f.cells:=by rw [Fv.cells_def];simp [zft]
@[simp] theorem Fv.frz {S:AS} {b d:Nat}:zE (S.frzTo b d) f.cells=some f.cells:=by
 rw [Fv.cells_def];simp [zE]
@[simp] theorem Fv.pure:jR f.cells=true:=by rw [Fv.cells_def];simp [jR]
theorem Fv.cell:f.cells.all AV.isCell=true:=by rw [Fv.cells_def];simp
@[simp] theorem Fv.cell':(∀v:AV,v∈f.cells -> v.isCell=true)=True:=eq_true (List.all_eq_true.1 Fv.cell)
end
section
variable {S:AS}
end
theorem zb0 {n:Int} (h:inI n):(zq n).size <=20:=wI h.1 h.2
section
variable {S:AS}
end
def jg (r:List T×Int):AV:=.tup [zf r.1,.sc (.int .i64 r.2)]
def qz (tag:ByteArray) (n:Nat) (r:T×Int):List T×Int:=if r.2=0 then (match yw tag n r.1 with|some l=>(l,0)|none=>([],2)) else ([],r.2)
def qx (k:T) (u:Int) (t:T) (tag:ByteArray) (n:Nat):List T×Int:=qz tag n (jl k u t)
theorem zb6 {tag:ByteArray} {n:Nat} {r:T×Int}:(∃l,yw tag n r.1=some l /\ qz tag n r=(l,0) /\ l.length=n /\ (∀u∈l,u∈r.1.kids) /\ r.2=0) \/ (∃e,e≠0 /\ qz tag n r=([],e) /\ (r.2=0 -> e=2 /\ yw tag n r.1=none) /\ (r.2≠0 -> e=r.2)):=by
 unfold qz;by_cases h:r.2=0
 ·rw [if_pos h];cases hu:yw tag n r.1 with
  |none=>right;exact ⟨2,by decide,rfl,fun _=>⟨rfl,rfl⟩,fun h'=>absurd h h'⟩
  |some l=>left;obtain ⟨h1,h2⟩:=qy hu;exact ⟨l,rfl,rfl,h1,h2,h⟩
 ·rw [if_neg h];right;exact ⟨r.2,h,rfl,fun h'=>absurd h' h,fun _=>rfl⟩
def qQ:ByteArray:=⟨#[104,111,115,116]⟩
def vO:ByteArray:=⟨#[97,117,116,104]⟩
def zaG:ByteArray:=⟨#[97,114,109,111,114]⟩
def vp:ByteArray:=⟨#[102,97,115,116]⟩
def qW:ByteArray:=⟨#[97,110,115,119,101,114]⟩
def zd7:ByteArray:=⟨#[115,117,98,107,101,121,97,114,109,111,114]⟩
def zdT:ByteArray:=⟨#[116,105,99,107,101,116,97,114,109,111,114]⟩
def zcj:ByteArray:=⟨#[115,116,114,101,110,103,116,104,101,110,107,101,121]⟩
def zcK:ByteArray:=⟨#[114,101,112,108,121,107,101,121]⟩
def zba:ByteArray:=⟨#[108,111,110,103,32]⟩
def zbs (kdc host:T):T:=yG kdc 2 (zj qQ [host])
def wh (tk host sub:T):T:=zj zaG [tk,yG host 11 (zj vO [sub])]
def wo (sub host:T):T:=qq sub host zd7 zdT
def qu (s b:T):T:=qq s b zcj zcK
def y5 (p:T) (n:ByteArray):T:=jr p (zba++n)
def qV (k b p c:T):T:=yG k 51 (zj vp [z8 b,p,c])
def jo (k:T) (n:ByteArray) (t:T):T:=yG k 52 (zj qW [yF n,t])
def zcq (n:ByteArray):List T×Int -> T×Int
 |([a,b],0)=>if a.same (yF n) then (b,0) else (tZ,6)
 |(_,e)=>(tZ,e)
def qw (k:T) (n:ByteArray) (t:T):T×Int:=zcq n (qx k 52 t qW 2)
def zcD (b:T):List T×Int -> T×T×Int
 |([h,p,c],0)=>if h.same (z8 b) then (p,c,0) else (tZ,tZ,6)
 |(_,e)=>(tZ,tZ,e)
def kN (k b t:T):T×T×Int:=zcD b (qx k 51 t vp 3)
def zgY (host:T):List T×Int -> T×Int
 |([s],0)=>(wo s host,0)
 |(_,e)=>(tZ,e)
def wW (t:T):List T×Int -> T×Int
 |([h],0)=>zgY h (qx h 11 t vO 1)
 |(_,e)=>(tZ,e)
def vK (kdc a:T):T×Int:=match yw zaG 2 a with
 |some [tk,t]=>wW t (qx kdc 2 tk qQ 1)
 |_=>(tZ,2)
theorem ziu {t u:T} (h:t.bb) (hu:u∈t.kids):u.bb:=T.bb_kids h u hu
theorem zk9 {tag:ByteArray} {n:Nat} {r:T×Int} (h:r.1.bb):∀u∈(qz tag n r).1,u.bb:=by
 rcases zb6 (tag:=tag) (n:=n) (r:=r) with ⟨l,_,e,_,hm,_⟩|⟨e',_,e,_⟩
 ·rw [e];exact fun u hu=>ziu h (hm u hu)
 ·rw [e];intro u hu;cases hu
theorem zl5 {k t:T} {u:Int} {tag:ByteArray} {n:Nat} (h:t.bb):∀x∈(qx k u t tag n).1,x.bb:=zk9 (zde h)
section
variable {S:AS}
theorem zGD {k t:T} {u:Int} {tag:ByteArray} {n:Nat} {m:Int} (hm:m=(n:Int)) (hu:inI u) (ht:t.bb):call 353 [.agg k.cells,.sc (.int .i64 u),.agg t.cells,.sc (.string tag),.sc (.int .i64 m)] S=some (jg (qx k u t tag n),S):=by
 subst hm;rw [zh zBl rfl (by simp) rfl];have e1:=fun S=>@zq0 S k t u hu (T.bb_fits ht);have hb:=zde (k:=k) (n:=u) ht;unfold qx;generalize jl k u t=r at *;have e2:=fun S=>@s78 S tag n r.1 (by have:=T.bb_len hb;omega);rcases zb6 (tag:=tag) (n:=n) (r:=r) with ⟨l,hl,e,_,_,h0⟩|⟨e',hne,e,h1,h2⟩
 ·rw [e];rw [hl]at e2;simp [zdf,ziP,e1,zy,h0,e2,zN,jg]
 ·rw [e];by_cases h0:r.2=0
  ·obtain ⟨rfl,hl⟩:=h1 h0;rw [hl]at e2;simp [zdf,ziP,e1,zy,h0,e2,zN,jg];rfl
  ·have:=h2 h0;subst this;simp [zdf,ziP,e1,zy,h0,jg];rfl
theorem zly {k t:T} {u:Int} {tag:ByteArray} {n:Nat} {m:Int} (hm:m=(n:Int)) (hu:inI u) (hu0:u≠ -9223372036854775808) (hn:n <=100) (ht:t.bb):call 417 [.agg k.cells,.sc (.int .i64 u),.agg t.cells,.sc (.string tag),.sc (.int .i64 m)] S=some (jg (qx k u t tag n),S):=by
 subst hm;rw [zh zyF rfl (by simp) rfl];have e1:=fun S=>@zjW S k t u hu hu0 (T.bb_fits ht);have hb:=zde (k:=k) (n:=u) ht;unfold qx;generalize jl k u t=r at *;have e2:=fun S=>@s79 S tag n r.1 (by omega);rcases zb6 (tag:=tag) (n:=n) (r:=r) with ⟨l,hl,e,_,_,h0⟩|⟨e',hne,e,h1,h2⟩
 ·rw [e];rw [hl]at e2;simp [zc0,zh6,e1,zy,h0,e2,zN,jg]
 ·rw [e];by_cases h0:r.2=0
  ·obtain ⟨rfl,hl⟩:=h1 h0;rw [hl]at e2;simp [zc0,zh6,e1,zy,h0,e2,zN,jg];rfl
  ·have:=h2 h0;subst this;simp [zc0,zh6,e1,zy,h0,jg];rfl
theorem i52:inI 52:=by unfold inI;omega
theorem i51:inI 51:=by unfold inI;omega
theorem i11:inI 11:=by unfold inI;omega
theorem i2:inI 2:=by unfold inI;omega
theorem zFy {tk host sub:T}:call 246 [.agg tk.cells,.agg host.cells,.agg sub.cells] S=some (.agg (wh tk host sub).cells,S):=by
 rw [zh zFO rfl (by simp) rfl];have e1:=fun S t=>@zfV S host t 11 i11;simp [f246,zni,e1,zw];rfl
theorem zAg {a b:T}:call 247 [.agg a.cells,.agg b.cells] S=some (.agg (wo a b).cells,S):=by
 rw [zh zBg rfl (by simp) rfl];have e1:∀S,call 350 [.agg a.cells,.agg b.cells,.sc (.string zd7),.sc (.string zdT)] S=_:=fun S=>zmo (by decide) (by decide);unfold zd7 zdT at e1;simp [f247,zrr,e1];rfl
theorem zEf {a b:T}:call 175 [.agg a.cells,.agg b.cells] S=some (.agg (wo a b).cells,S):=by
 rw [zh a175 rfl (by simp) rfl];have e1:∀S,call 293 [.agg a.cells,.agg b.cells,.sc (.string zd7),.sc (.string zdT)] S=_:=fun S=>zkx (by decide) (by decide);unfold zd7 zdT at e1;simp [ziU,zpp,e1];rfl
theorem zFv {a b:T}:call 352 [.agg a.cells,.agg b.cells] S=some (.agg (qu a b).cells,S):=by
 rw [zh zzK rfl (by simp) rfl];have e1:∀S,call 350 [.agg a.cells,.agg b.cells,.sc (.string zcj),.sc (.string zcK)] S=_:=fun S=>zmo (by decide) (by decide);unfold zcj zcK at e1;simp [zjl,zsz,e1];rfl
theorem zxB {a b:T}:call 333 [.agg a.cells,.agg b.cells] S=some (.agg (qu a b).cells,S):=by
 rw [zh zw8 rfl (by simp) rfl];have e1:∀S,call 293 [.agg a.cells,.agg b.cells,.sc (.string zcj),.sc (.string zcK)] S=_:=fun S=>zkx (by decide) (by decide);unfold zcj zcK at e1;simp [zgI,zq6,e1];rfl
theorem zvH {a b:T}:call 286 [.agg a.cells,.agg b.cells] S=some (.agg (zbs a b).cells,S):=by
 rw [zh zAt rfl (by simp) rfl];have e1:=fun S t=>@zjF S a t 2 i2 (by omega);simp [f286,zt6,e1,zw];rfl
theorem zAI {a:T} {n:ByteArray} (hn:n.size <=4611686018427387904):call 200 [.agg a.cells,.sc (.string n)] S=some (.agg (y5 a n).cells,S):=by
 rw [zh zBD rfl (by simp) rfl];have p1:=yS (x:=zba) (y:=n) (by show 5+_ <=_;omega);unfold zba at p1;simp [ziC,zuw,p1];rfl
theorem zlY {a:T} {n:ByteArray} (hn:n.size <=4611686018427387904):call 145 [.agg a.cells,.sc (.string n)] S=some (.agg (y5 a n).cells,S):=by
 rw [zh a145 rfl (by simp) rfl];have p1:=yS (x:=zba) (y:=n) (by show 5+_ <=_;omega);unfold zba at p1;simp [zh7,znp,p1];rfl
theorem zzn {k b p c:T}:call 351 [.agg k.cells,.agg b.cells,.agg p.cells,.agg c.cells] S=some (.agg (qV k b p c).cells,S):=by
 rw [zh zHj rfl (by simp) rfl];have e1:=fun S t=>@zfV S k t 51 i51;simp [zhP,zrP,e1,zw];rfl
theorem zrI {k t:T} {n:ByteArray} (hn:n.size <=4611686018427387904):call 332 [.agg k.cells,.sc (.string n),.agg t.cells] S=some (.agg (jo k n t).cells,S):=by
 rw [zh zDL rfl (by simp) rfl];have e1:=fun S t=>@zjF S k t 52 i52 (by omega);have e2:=fun S=>@s65 S n hn;simp [zjs,zrt,e1,e2,zw];rfl
end
theorem zcE {k t:T} {u:Int} {tag:ByteArray} {n:Nat}:(∃l,qx k u t tag n=(l,0) /\ l.length=n) \/ (∃e,e≠0 /\ qx k u t tag n=([],e)):=by
 rcases zb6 (tag:=tag) (n:=n) (r:=jl k u t) with ⟨l,_,e,h,_⟩|⟨e',hne,e,_⟩
 ·exact .inl ⟨l,e,h⟩
 ·exact .inr ⟨e',hne,e⟩
section
variable {S:AS}
theorem yV {a b:T}:pev (.iaddr 3) [zf [a,b],.i 0]=some (.iptr a.cells):=zI (i:=0) rfl
theorem yW {a b:T}:pev (.iaddr 3) [zf [a,b],.i 1]=some (.iptr b.cells):=zI (i:=1) rfl
theorem zel {a b c:T}:pev (.iaddr 3) [zf [a,b,c],.i 0]=some (.iptr a.cells):=zI (i:=0) rfl
theorem zdW {a b c:T}:pev (.iaddr 3) [zf [a,b,c],.i 1]=some (.iptr b.cells):=zI (i:=1) rfl
theorem zdO {a b c:T}:pev (.iaddr 3) [zf [a,b,c],.i 2]=some (.iptr c.cells):=zI (i:=2) rfl
theorem zaS {a:T}:pev (.iaddr 3) [zf [a],.i 0]=some (.iptr a.cells):=zI (i:=0) rfl
theorem zjI {l:List T} (h:l.length=1):∃a,l=[a]:=by
 match l,h with
 |[a],_=>exact ⟨a,rfl⟩
theorem wQ {l:List T} (h:l.length=2):∃a b,l=[a,b]:=by
 match l,h with
 |[a,b],_=>exact ⟨a,b,rfl⟩
theorem zdA {l:List T} (h:l.length=3):∃a b c,l=[a,b,c]:=by
 match l,h with
 |[a,b,c],_=>exact ⟨a,b,c,rfl⟩
theorem ve:(tZ.cells:List AV)=[.i 0,.s ⟨#[]⟩,zf []]:=rfl
theorem zmn {t:T} {e:Int} {tag:ByteArray} {n:Nat} {m:Int} (hm:m=(n:Int)) (ht:t.bb):call 252 [.agg t.cells,.sc (.int .i64 e),.sc (.string tag),.sc (.int .i64 m)] S=some (jg (qz tag n (t,e)),S):=by
 subst hm;rw [zh zD9 rfl (by simp) rfl];have e2:=fun S=>@s78 S tag n t (by have:=T.bb_len ht;omega);rcases zb6 (tag:=tag) (n:=n) (r:=(t,e)) with ⟨l,hl,e',_,_,h0⟩|⟨e',hne,e'',h1,h2⟩
 ·have hl:yw tag n t=some l:=hl;have h0:e=0:=h0;rw [e'];rw [hl]at e2;simp [zdu,zjb,h0,e2,zN,jg]
 ·rw [e''];by_cases h0:e=0
  ·obtain ⟨rfl,hl⟩:=h1 h0;have hl:yw tag n t=none:=hl;rw [hl]at e2;simp [zdu,zjb,h0,e2,zN,jg];rfl
  ·have:=h2 h0;subst this;simp [zdu,zjb,h0,jg];rfl
theorem zph {k t:T} {n:ByteArray} (hn:n.size <=4611686018427387904) (ht:t.bb):call 251 [.agg k.cells,.sc (.string n),.agg t.cells] S=some (zy (qw k n t),S):=by
 rw [zh zAB rfl (by simp) rfl];have e1:=fun S=>@zGD S k t 52 qW 2 2 rfl i52 ht;have e2:=fun S=>@s64 S n hn;have hb:=zl5 (k:=k) (u:=52) (tag:=qW) (n:=2) ht;unfold qw;rcases zcE (k:=k) (t:=t) (u:=52) (tag:=qW) (n:=2) with ⟨l,hl,hlen⟩|⟨e,hne,hl⟩
 ·obtain ⟨a,b,rfl⟩:=wQ hlen;rw [hl]at e1 hb ⊢;have fa:a.fits:=T.bb_fits (hb a (by simp));unfold qW at e1;cases hs:a.same (yF n) with
  |true=>simp [zea,zgN,e1,jg,yV,yW,e2,fa,hs,zcq,zy]
  |false=>simp [zea,zgN,e1,jg,yV,yW,e2,fa,hs,zcq,zy,ve];rfl
 ·rw [hl]at e1 ⊢;have hr:zcq n ([],e)=(tZ,e):=by unfold zcq;rfl
  rw [hr];unfold qW at e1;simp [zea,zgN,e1,jg,hne,zy,ve];rfl
def vR (r:T×T×Int):AV:=.tup [.agg r.1.cells,.agg r.2.1.cells,.sc (.int .i64 r.2.2)]
theorem zC1 {k b t:T} (ht:t.bb):call 338 [.agg k.cells,.agg b.cells,.agg t.cells] S=some (vR (kN k b t),S):=by
 rw [zh zAU rfl (by simp) rfl];have e1:=fun S=>@zly S k t 51 vp 3 3 rfl i51 (by omega) (by omega) ht;have hb:=zl5 (k:=k) (u:=51) (tag:=vp) (n:=3) ht;unfold kN;rcases zcE (k:=k) (t:=t) (u:=51) (tag:=vp) (n:=3) with ⟨l,hl,hlen⟩|⟨e,hne,hl⟩
 ·obtain ⟨x,p,c,rfl⟩:=zdA hlen;rw [hl]at e1 hb ⊢;have fa:x.fits:=T.bb_fits (hb x (by simp));unfold vp at e1;cases hs:x.same (z8 b) with
  |true=>simp [f338,zgZ,e1,jg,zel,zdW,zdO,fa,hs,zcD,vR]
  |false=>simp [f338,zgZ,e1,jg,zel,zdW,zdO,fa,hs,zcD,vR,ve];rfl
 ·rw [hl]at e1 ⊢;have hr:zcD b ([],e)=(tZ,tZ,e):=by unfold zcD;rfl
  rw [hr];unfold vp at e1;simp [f338,zgZ,e1,jg,hne,vR,ve];rfl
theorem zEo {kdc a:T} (ha:a.bb):call 337 [.agg kdc.cells,.agg a.cells] S=some (zy (vK kdc a),S):=by
 rw [zh zGr rfl (by simp) rfl];have e0:=fun S=>@s79 S zaG 2 a (by omega);unfold vK;cases hu:yw zaG 2 a with
 |none=>
  rw [hu]at e0;unfold zaG at e0;simp [f337,ze7,e0,zN,zy,ve];rfl
 |some l=>
  rw [hu]at e0;obtain ⟨h2,hm⟩:=qy (n:=2) hu;obtain ⟨tk,t,rfl⟩:=wQ h2;have btk:tk.bb:=ziu ha (hm tk (by simp));have bt:t.bb:=ziu ha (hm t (by simp));unfold zaG at e0;have e1:=fun S=>@zly S kdc tk 2 qQ 1 1 rfl i2 (by omega) (by omega) btk;rcases zcE (k:=kdc) (t:=tk) (u:=2) (tag:=qQ) (n:=1) with ⟨l,hl,hlen⟩|⟨e,hne,hl⟩
  ·obtain ⟨host,rfl⟩:=zjI hlen;rw [hl]at e1;simp only [hl];unfold qQ at e1;have e2:=fun S=>@zly S host t 11 vO 1 1 rfl i11 (by omega) (by omega) bt;rcases zcE (k:=host) (t:=t) (u:=11) (tag:=vO) (n:=1) with ⟨l',hl',hlen'⟩|⟨e,hne,hl'⟩
   ·obtain ⟨sub,rfl⟩:=zjI hlen';rw [hl']at e2;unfold vO at e2;have hr:wW t ([host],0)=(wo sub host,0):=by unfold wW;simp only [hl'];rfl
    rw [hr];simp [f337,ze7,e0,zN,e1,e2,jg,zy,yV,yW,zaS,zEf]
   ·rw [hl']at e2;unfold vO at e2;have hr:wW t ([host],0)=(tZ,e):=by unfold wW;simp only [hl'];rfl
    rw [hr];simp [f337,ze7,e0,zN,e1,e2,jg,zy,yV,yW,zaS,hne,ve];rfl
  ·rw [hl]at e1;simp only [hl];unfold qQ at e1;have hr:wW t ([],e)=(tZ,e):=by unfold wW;rfl
   rw [hr];simp [f337,ze7,e0,zN,e1,jg,zy,yV,yW,hne,ve];rfl
end
def GV (S:AS) (sz:Nat) (v:AV) (R:List (List AV)):Prop:=(R=[] /\ v=.lst 0 true []) \/ ∃id,v=.arr id sz 0 R.length none /\ S.heap id=some (.rows sz R) /\ S.ro <=id /\ id < S.n
def Chg (S S':AS) (o o':Nat -> Prop):Prop:=S'.ro=S.ro /\ S.n <=S'.n /\ ∀x,x < S.n -> ¬o x -> S'.heap x=S.heap x /\ ¬o' x
section
variable {S:AS} {v:AV} {R:List (List AV)} {sz:Nat}
theorem Chg.refl {o:Nat -> Prop}:Chg S S o o:=⟨rfl,Nat.le_refl _,fun x _ h=>⟨rfl,h⟩⟩
theorem Chg.trans {S' S'':AS} {o o' o'':Nat -> Prop} (h:Chg S S' o o') (h':Chg S' S'' o' o''):Chg S S'' o o'':=by
 refine ⟨h'.1.trans h.1,Nat.le_trans h.2.1 h'.2.1,fun x hx hn=>?_⟩;obtain ⟨a,b⟩:=h.2.2 x hx hn;obtain ⟨c,d⟩:=h'.2.2 x (Nat.lt_of_lt_of_le hx h.2.1) b;exact ⟨c.trans a,d⟩
theorem GV.reg (h:GV S sz v R):v.isReg=false:=by rcases h with ⟨_,rfl⟩|⟨id,rfl,_⟩<;>rfl
theorem GV.cell (h:GV S sz v R):v.isCell=true:=by rcases h with ⟨_,rfl⟩|⟨id,rfl,_⟩<;>rfl
theorem GV.cells (h:GV S sz v R):v.cells=[v]:=by rcases h with ⟨_,rfl⟩|⟨id,rfl,_⟩<;>rfl
theorem GV.len (h:GV S sz v R):pev .lenL [v]=some (.sc (.int .i64 (R.length:Nat))):=by rcases h with ⟨rfl,rfl⟩|⟨id,rfl,_⟩<;>rfl
theorem GV.lt (h:GV S sz v R) {x:Nat} (hx:jf v x):x < S.n /\ S.ro <=x:=by
 obtain ⟨a,b,c,d,e⟩:=hx;rcases h with ⟨_,e'⟩|⟨id,e',_,h1,h2⟩
 ·rw [e']at e;cases e
 ·rw [e']at e;cases e;exact ⟨h2,h1⟩
theorem GV.keep (h:GV S sz v R) {S':AS} (hr:S'.ro=S.ro) (hn:S.n <=S'.n) (hh:∀x,x < S.n -> jf v x -> S'.heap x=S.heap x):GV S' sz v R:=by
 rcases h with h|⟨id,e,h1,h2,h3⟩
 ·exact .inl h
 ·exact .inr ⟨id,e,by rw [hh id h3 ⟨_,_,_,_,e⟩];exact h1,by rw [hr];exact h2,by omega⟩
theorem GV.rows (h:GV S sz v R):zv sz S v=some R:=by
 rcases h with ⟨rfl,rfl⟩|⟨id,rfl,h1,_,_⟩
 ·simp [zv]
 ·simp only [zv,if_true];exact wD h1 (Nat.zero_le _)
theorem GV.app (h:GV S sz v R) (hro:S.ro <=S.n) {r:List AV} {bytes:Nat} {f:Bool} (hb:(R.length+1) * bytes <=140737488355328):
 ∃v' S',(∀d rg,za (.append sz bytes) d rg S [v,.lst sz f [r]]=some (v',none,S')) /\ GV S' sz v' (R++[r]) /\ Chg S S' (jf v) (jf v'):=by
 have hrw:zv sz S (.lst sz f [r])=some [r]:=by simp [zv]
 rcases h with ⟨rfl,rfl⟩|⟨id,rfl,h1,h2,h3⟩
 ·refine ⟨.arr S.n sz 0 1 none,S.new (.rows sz [r]),fun d rg=>?_,.inr ⟨S.n,by simp,by simpa using jw,hro,Nat.lt_succ_self _⟩,rfl,Nat.le_succ _,fun x hx hv=>⟨if_neg (by omega),?_⟩⟩
  ·have hb:1 * bytes <=140737488355328:=by simpa using hb
   simp [za,hrw,jd];omega
  ·rintro ⟨a,b,c,d,e⟩;cases e;omega
 ·have htk:R.take R.length=R:=List.take_length;refine ⟨.arr S.n sz 0 (R.length+1) none,(S.set id none).new (.rows sz (R++[r])),fun d rg=>?_,.inr ⟨S.n,by simp,if_pos rfl,hro,Nat.lt_succ_self _⟩,rfl,Nat.le_succ _,fun x hx hv=>⟨?_,?_⟩⟩
  ·simp only [za,hrw,Option.bind_some,jd,List.isEmpty_cons,Bool.false_eq_true,if_false,h1,Nat.zero_add,List.length_cons,List.length_nil];rw [if_neg (by simp;omega),if_neg (by omega),if_pos ⟨trivial,hb⟩];simp only [htk,Option.map_some]
  ·show (if x=S.n then _ else (if x=id then none else S.heap x))=_;rw [if_neg (by omega),if_neg (fun e=>hv ⟨_,_,_,_,by rw [e]⟩)]
  ·rintro ⟨a,b,c,d,e⟩;cases e;omega
end
structure Cl where
 on:Bool
 done:Bool
 ended:Bool
 nonce:ByteArray
 body:T
 wrap:T
 ak:T
 base:T
 session:T
 name:ByteArray
 pass:T
 seed:T
 counter:Int
 ticket:T
 host:T
 key:T
 marks:List (ByteArray×ByteArray)
 z1:Bool:=false
 z2:Bool:=false
 z3:Bool:=false
def zc:Bool -> T -> AV
 |true,_=>.lst 0 true []
 |false,t=>zf t.kids
namespace Cl
def row (c:Cl) (mv:AV):List AV:=[.b c.on,.b c.done,.b c.ended,.s c.nonce,
 .sc (.int .i64 c.body.kind),.sc (.string c.body.name),zc c.z1 c.body,.sc (.int .i64 c.wrap.kind),.sc (.string c.wrap.name),zc c.z1 c.wrap,
 .sc (.int .i64 c.ak.kind),.sc (.string c.ak.name),zc c.z1 c.ak,.sc (.int .i64 c.base.kind),.sc (.string c.base.name),zc c.z2 c.base,
 .sc (.int .i64 c.session.kind),.sc (.string c.session.name),zc c.z3 c.session,.s c.name,
 .sc (.int .i64 c.pass.kind),.sc (.string c.pass.name),zf c.pass.kids,.sc (.int .i64 c.seed.kind),.sc (.string c.seed.name),zf c.seed.kids,.sc (.int .i64 c.counter),
 .sc (.int .i64 c.ticket.kind),.sc (.string c.ticket.name),zf c.ticket.kids,.sc (.int .i64 c.host.kind),.sc (.string c.host.name),zf c.host.kids,
 .sc (.int .i64 c.key.kind),.sc (.string c.key.name),zf c.key.kids,mv]
def mrow (l:List (ByteArray×ByteArray)):List (List AV):=l.map fun m=>[.sc (.string m.1),.sc (.string m.2)]
def says (c:Cl) (p k:T):T:=vT c.body c.wrap (qV c.ak c.body p k)
end Cl
structure yq (S:AS) (id:Nat) (c:Cl) (mv:AV):Prop where
 hh:S.heap id=some (.rows 37 [c.row mv])
 gv:GV S 2 mv (Cl.mrow c.marks)
 ro:S.ro <=id
 lt:id < S.n
 ne:¬jf mv id
def jH (id:Nat) (mv:AV) (x:Nat):Prop:=x=id \/ jf mv x
section
variable {S:AS} {id:Nat} {c:Cl} {mv:AV}
theorem yq.hS (h:yq S id c mv):S.ro <=S.n:=by have:=h.ro;have:=h.lt;omega
theorem yq.keep (h:yq S id c mv) {S':AS} (hr:S'.ro=S.ro) (hn:S.n <=S'.n) (hh:∀x,x < S.n -> jH id mv x -> S'.heap x=S.heap x):yq S' id c mv:=
 ⟨(hh id h.lt (.inl rfl)).trans h.hh,h.gv.keep hr hn fun x hx hv=>hh x hx (.inr hv),by rw [hr];exact h.ro,Nat.lt_of_lt_of_le h.lt hn,h.ne⟩
theorem yq.own_lt (h:yq S id c mv) {x:Nat} (hx:jH id mv x):x < S.n:=by
 rcases hx with rfl|hx
 ·exact h.lt
 ·exact (h.gv.lt hx).1
theorem tri (t:T):[AV.sc (.int .i64 t.kind),.sc (.string t.name),zf t.kids]=t.cells:=(zu t).symm
section
variable (h:yq S id c mv)
include h
theorem yq.on (d:Option Nat) (rg:Nat -> Option (List AV)):za (.ld none 1 false) d rg S [.ptr id 0 0]=some (.b c.on,none,S):=by rw [yg h.hh];rfl
theorem yq.done (d:Option Nat) (rg:Nat -> Option (List AV)):za (.ld none 1 false) d rg S [.ptr id 0 1]=some (.b c.done,none,S):=by rw [yg h.hh];rfl
theorem yq.nonce (d:Option Nat) (rg:Nat -> Option (List AV)):za (.ld none 1 false) d rg S [.ptr id 0 3]=some (.sc (.string c.nonce),none,S):=by rw [yg h.hh];rfl
theorem yq.body (hz:c.z1=false) (d:Option Nat) (rg:Nat -> Option (List AV)):za (.ld none 3 true) d rg S [.ptr id 0 4]=some (.agg c.body.cells,none,S):=by rw [yg h.hh,<- tri];unfold Cl.row;rw [hz];rfl
theorem yq.ak (hz:c.z1=false) (d:Option Nat) (rg:Nat -> Option (List AV)):za (.ld none 3 true) d rg S [.ptr id 0 10]=some (.agg c.ak.cells,none,S):=by rw [yg h.hh,<- tri];unfold Cl.row;rw [hz];rfl
theorem yq.base (hz:c.z2=false) (d:Option Nat) (rg:Nat -> Option (List AV)):za (.ld none 3 true) d rg S [.ptr id 0 13]=some (.agg c.base.cells,none,S):=by rw [yg h.hh,<- tri];unfold Cl.row;rw [hz];rfl
theorem yq.name (d:Option Nat) (rg:Nat -> Option (List AV)):za (.ld none 1 false) d rg S [.ptr id 0 19]=some (.sc (.string c.name),none,S):=by rw [yg h.hh];rfl
theorem yq.seed (d:Option Nat) (rg:Nat -> Option (List AV)):za (.ld none 3 true) d rg S [.ptr id 0 23]=some (.agg c.seed.cells,none,S):=by rw [yg h.hh,<- tri];rfl
theorem yq.counter (d:Option Nat) (rg:Nat -> Option (List AV)):za (.ld none 1 false) d rg S [.ptr id 0 26]=some (.sc (.int .i64 c.counter),none,S):=by rw [yg h.hh];rfl
theorem yq.ticket (d:Option Nat) (rg:Nat -> Option (List AV)):za (.ld none 3 true) d rg S [.ptr id 0 27]=some (.agg c.ticket.cells,none,S):=by rw [yg h.hh,<- tri];rfl
theorem yq.host (d:Option Nat) (rg:Nat -> Option (List AV)):za (.ld none 3 true) d rg S [.ptr id 0 30]=some (.agg c.host.cells,none,S):=by rw [yg h.hh,<- tri];rfl
theorem yq.key (d:Option Nat) (rg:Nat -> Option (List AV)):za (.ld none 3 true) d rg S [.ptr id 0 33]=some (.agg c.key.cells,none,S):=by rw [yg h.hh,<- tri];rfl
theorem yq.marks (d:Option Nat) (rg:Nat -> Option (List AV)):za (.ld none 1 false) d rg S [.ptr id 0 36]=some (mv,none,S):=by rw [yg h.hh];rfl
theorem yq.st {col sz:Nat} {x:AV} {c':Cl} {mv':AV} (hl:x.cells.length=sz) (hc:x.cells.all AV.isCell=true) (hr:setCells (c.row mv) col x.cells=c'.row mv') (hle:col+sz <=37) (d:Option Nat) (rg:Nat -> Option (List AV)):
 za (.st none sz) d rg S [.ptr id 0 col,x]=some (.junk,none,S.set id (some (.rows 37 [c'.row mv']))):=by
 have hlen:(c.row mv).length=37:=rfl;simp only [za,h.hh];rw [if_pos ⟨h.ro,hc,hl⟩];simp only [List.getElem?_cons_zero,Option.bind_some,hlen];rw [if_pos hle,hr];rfl
theorem yq.set {c':Cl} (hm:c'.marks=c.marks):yq (S.set id (some (.rows 37 [c'.row mv]))) id c' mv:=
 ⟨if_pos rfl,by rw [hm];exact h.gv.keep rfl (Nat.le_refl _) fun x _ hx=>if_neg fun e=>h.ne (by rw [<- e];exact hx),h.ro,h.lt,h.ne⟩
theorem yq.chg {c':Cl}:Chg S (S.set id (some (.rows 37 [c'.row mv]))) (jH id mv) (jH id mv):=⟨rfl,Nat.le_refl _,fun x _ hx=>⟨if_neg fun e=>hx (.inl e),hx⟩⟩
end
theorem zna {p k:T} (h:yq S id c mv) (hz:c.z1=false):call 248 [.ptr id 0 0,.agg p.cells,.agg k.cells] S=some (.agg (c.says p k).cells,S):=by
 rw [zh zHT rfl (by simp) rfl];have h':yq {S with ro:=S.n} id c mv \/ True:=.inr trivial;have e1:∀d rg,za (.ld none 3 true) d rg {S with ro:=S.n} [.ptr id 0 4]=some (.agg c.body.cells,none,{S with ro:=S.n}):=fun d rg=>by rw [yg (S:={S with ro:=S.n}) h.hh,<- tri];unfold Cl.row;rw [hz];rfl
 have e2:∀d rg,za (.ld none 3 true) d rg {S with ro:=S.n} [.ptr id 0 7]=some (.agg c.wrap.cells,none,{S with ro:=S.n}):=fun d rg=>by rw [yg (S:={S with ro:=S.n}) h.hh,<- tri];unfold Cl.row;rw [hz];rfl
 have e3:∀d rg,za (.ld none 3 true) d rg {S with ro:=S.n} [.ptr id 0 10]=some (.agg c.ak.cells,none,{S with ro:=S.n}):=fun d rg=>by rw [yg (S:={S with ro:=S.n}) h.hh,<- tri];unfold Cl.row;rw [hz];rfl
 have e4:=fun S=>@zzn S c.ak c.body p k;simp [zhz,zqD,e1,e2,e3,e4,Cl.says]
theorem zrE (h:yq S id c mv) (hz:c.ended=true -> c.z3=false):call 104 [.ptr id 0 0] S=some (if c.ended then .tup [.agg c.session.cells,.sc (.string c.nonce),.b true] else .tup [.agg tZ.cells,.s ⟨#[]⟩,.b false],S):=by
 rw [zh zvi rfl (by simp) rfl];have e1:∀d rg,za (.ld none 1 false) d rg {S with ro:=S.n} [.ptr id 0 2]=some (.b c.ended,none,{S with ro:=S.n}):=fun d rg=>by rw [yg (S:={S with ro:=S.n}) h.hh];rfl
 have e3:∀d rg,za (.ld none 1 false) d rg {S with ro:=S.n} [.ptr id 0 3]=some (.sc (.string c.nonce),none,{S with ro:=S.n}):=fun d rg=>by rw [yg (S:={S with ro:=S.n}) h.hh];rfl
 cases he:c.ended with
 |true=>
  have hz:=hz he;have e2:∀d rg,za (.ld none 3 true) d rg {S with ro:=S.n} [.ptr id 0 16]=some (.agg c.session.cells,none,{S with ro:=S.n}):=fun d rg=>by rw [yg (S:={S with ro:=S.n}) h.hh,<- tri];unfold Cl.row;rw [hz];rfl
  rw [he]at e1;simp [zfN,zjU,e1,e2,e3]
 |false=>rw [he]at e1;simp [zfN,zjU,e1,ve];rfl
theorem zIb (h:yq S id c mv):call 232 [.ptr id 0 0] S=some (.sc (.int .i64 c.counter),S):=by
 rw [zh a232 rfl (by simp) rfl];have e1:∀d rg,za (.ld none 1 false) d rg {S with ro:=S.n} [.ptr id 0 26]=some (.sc (.int .i64 c.counter),none,{S with ro:=S.n}):=fun d rg=>by rw [yg (S:={S with ro:=S.n}) h.hh];rfl
 simp [ziQ,znQ,e1]
end
end Abs
namespace Abs.Rf
open Go Abs
def lookC (id:ByteArray):List (ByteArray×Int) -> Option Int
 |[]=>none
 |p::l=>if p.1=id then some p.2 else lookC id l
def kX (id:ByteArray) (v:Int):List (ByteArray×Int) -> List (ByteArray×Int)
 |[]=>[(id,v)]
 |p::l=>if p.1=id then (id,v)::l else p::kX id v l
def liveC (now:Int) (l:List (ByteArray×Int)):List (ByteArray×Int):=l.filter fun p=>decide (now < p.2)
theorem live_len {now:Int} {l:List (ByteArray×Int)}:(liveC now l).length <=l.length:=List.length_filter_le _ _
def jj (l:List (ByteArray×Int)):List (List AV):=l.map fun p=>[.sc (.string p.1),.sc (.int .i64 p.2)]
inductive LV (S:AS):AV -> List (ByteArray×Int) -> List Nat -> Prop
 |nil {z:Nat}:LV S (.lst z true []) [] []
 |arr {id:Nat} {l:List (ByteArray×Int)} (h:S.heap id=some (.rows 2 (jj l))) (ro:S.ro <=id) (lt:id < S.n):LV S (.arr id 2 0 l.length none) l [id]
theorem zco {l:List (ByteArray×Int)}:(jj l).length=l.length:=by simp [jj]
theorem zdK {l:List (ByteArray×Int)} {i:Nat} {p:ByteArray×Int} (h:l[i]?=some p):(jj l)[i]?=some [.sc (.string p.1),.sc (.int .i64 p.2)]:=by
 simp [jj,h]
section
variable {S S':AS} {v:AV} {l:List (ByteArray×Int)} {ids:List Nat}
theorem LV.step (h:LV S v l ids) (hh:∀j∈ids,S'.heap j=S.heap j) (hr:S'.ro=S.ro) (hn:S.n <=S'.n):LV S' v l ids:=by
 cases h with
 |nil=>exact .nil
 |arr h ro lt=>exact .arr (by rw [hh _ (by simp)];exact h) (by rw [hr];exact ro) (Nat.lt_of_lt_of_le lt hn)
theorem LV.len (h:LV S v l ids):pev .lenL [v]=some (.sc (.int .i64 l.length)):=by
 cases h<;>rfl
theorem LV.cell (h:LV S v l ids):v.isCell=true:=by cases h<;>rfl
theorem LV.cells (h:LV S v l ids):v.cells=[v]:=by cases h<;>rfl
theorem LV.at_ (h:LV S v l ids) {i:Nat} (hi:i < l.length):∃id,ids=[id] /\ pev (.iaddr 2) [v,.sc (.int .i64 (i:Int))]=some (.ptr id i 0) /\ S.heap id=some (.rows 2 (jj l)):=by
 cases h with
 |nil=>simp at hi
 |arr h ro lt=>exact ⟨_,rfl,by rw [zkB (by omega) (by omega)];simp,h⟩
theorem LV.push (h:LV S v l ids) (hro:S.ro <=S.n) (p:ByteArray×Int) (hb:(l.length+1) * 24 <=140737488355328):
 ∃v' S',(∀d rg,za (.append 2 24) d rg S [v,.lst 2 true [[.sc (.string p.1),.sc (.int .i64 p.2)]]]=some (v',none,S')) /\ LV S' v' (l++[p]) [S.n] /\ S'.ro=S.ro /\ S'.n=S.n+1 /\ ∀j,j < S.n -> j∉ids -> S'.heap j=S.heap j:=by
 cases h with
 |nil=>
  refine ⟨.arr S.n 2 0 1 none,S.new (.rows 2 [[.sc (.string p.1),.sc (.int .i64 p.2)]]),?_,?_,rfl,rfl,?_⟩
  ·intro d rg;rename_i z;simp only [za,zv,beq_self_eq_true,Bool.true_or,if_true,decide_true,Option.bind_some,jd,List.isEmpty_cons,Bool.false_eq_true,if_false,List.isEmpty_nil,Bool.true_and,List.length_nil,Nat.zero_add,List.nil_append,Option.map_some];simp
  ·exact .arr (l:=[p]) (by simp [AS.new,jj]) hro (Nat.lt_succ_self _)
  ·intro j hj _;exact if_neg (by omega)
 |arr h ro lt=>
  rename_i id;have hs:zkh S id 2 (jj l):=⟨h,ro,lt⟩;refine ⟨.arr S.n 2 0 (l.length+1) none,(S.set id none).new (.rows 2 (jj l++[[.sc (.string p.1),.sc (.int .i64 p.2)]])),?_,?_,rfl,rfl,?_⟩
  ·intro d rg;have:=zs1 (d:=d) (rg:=rg) (bytes:=24) hs (ys:=[[.sc (.string p.1),.sc (.int .i64 p.2)]]) (by simp) (by rw [zco];simpa using hb);rw [zco]at this;exact this
  ·have:=LV.arr (S:=(S.set id none).new (.rows 2 (jj l++[[.sc (.string p.1),.sc (.int .i64 p.2)]]))) (id:=S.n) (l:=l++[p]) (by simp [AS.new,AS.set,jj]) hro (Nat.lt_succ_self _);simpa using this
  ·intro j hj hn;show (if j=S.n then _ else if j=id then _ else _)=_;rw [if_neg (by omega),if_neg (by simpa using hn)]
structure IsRef (S:AS) (wid:Nat) (room:Int) (l:List (ByteArray×Int)) (ids:List Nat) (v:AV):Prop where
 w:S.heap wid=some (.rows 2 [[.sc (.int .i64 room),v]])
 lv:LV S v l ids
 ne:wid∉ids
 ro:S.ro <=wid
 lt:wid < S.n
 sr:S.ro <=S.n
structure Frm (wid:Nat) (ids:List Nat) (S S':AS):Prop where
 ro:S'.ro=S.ro
 n:S.n <=S'.n
 heap:∀j,j < S.n -> j≠wid -> j∉ids -> S'.heap j=S.heap j
theorem wq {wid:Nat} {room:Int} {d:Option Nat} {rg:Nat -> Option (List AV)} (h:IsRef S wid room l ids v):za (.ld none 1 false) d rg S [.ptr wid 0 1]=some (v,none,S):=by
 rw [yg h.w];simp
theorem zpN {wid:Nat} {room:Int} {d:Option Nat} {rg:Nat -> Option (List AV)} (h:IsRef S wid room l ids v):za (.ld none 1 false) d rg S [.ptr wid 0 0]=some (.sc (.int .i64 room),none,S):=by
 rw [yg h.w];simp
def Sat (o:Option (AV×AS)) (Q:AV -> AS -> Prop):Prop:=∃v S',o=some (v,S') /\ Q v S'
@[simp] theorem zLB {v:AV} {S:AS} {Q:AV -> AS -> Prop}:Sat (some (v,S)) Q↔Q v S:=by
 constructor
 ·rintro ⟨_,_,h,hq⟩;cases h;exact hq
 ·intro h;exact ⟨_,_,rfl,h⟩
theorem zqW {now:Int} {l:List (ByteArray×Int)} {i:Nat} {p:ByteArray×Int} (h:l[i]?=some p):liveC now (l.take (i+1))=if now < p.2 then liveC now (l.take i)++[p] else liveC now (l.take i):=by
 rw [List.take_add_one,h];unfold liveC;rw [List.filter_append];by_cases hp:now < p.2
 ·simp [hp]
 ·simp [hp]
theorem IsRef.step {wid:Nat} {room:Int} (h:IsRef S wid room l ids v) (hw:S'.heap wid=S.heap wid) (hh:∀j∈ids,S'.heap j=S.heap j) (hr:S'.ro=S.ro) (hn:S.n <=S'.n):IsRef S' wid room l ids v:=
 ⟨by rw [hw];exact h.w,h.lv.step hh hr hn,h.ne,by rw [hr];exact h.ro,Nat.lt_of_lt_of_le h.lt hn,by rw [hr];exact Nat.le_trans h.sr hn⟩
theorem LV.lt (h:LV S v l ids):∀j∈ids,j < S.n:=by
 cases h with
 |nil=>intro j hj;cases hj
 |arr h ro lt=>intro j hj;simp at hj;subst hj;exact lt
theorem zGx {wid:Nat} {room now:Int} {ks:List Kn} {Q:AV -> AS -> Prop} {S0:AS} (hb:l.length <=1000)
 (hk:∀e S u ms,e 0=.ptr wid 0 0 -> e 5=u -> IsRef S wid room l ids v -> LV S u (liveC now l) ms -> (∀j∈ms,j∉ids /\ j≠wid /\ S0.n <=j) -> S.ro=S0.ro -> S0.n <=S.n -> (∀j,j < S0.n -> S.heap j=S0.heap j) -> Sat (fin [.tmp 4] (unw AA (some (.exit 0,st 51 e (fun _=>none) S)) ks)) Q):
 ∀(n i:Nat) (e:Nat -> AV) (S:AS) (u:AV) (ms:List Nat) (tm:List Nat),n+i=l.length -> tm=[9,10,11,12,13,14,15,16,17,18,19,20,21,22,23,24,25,26,27,28,29,30,31,32,33,34,35,36,37] ->
  e 0=.ptr wid 0 0 -> e 1=.sc (.int .i64 now) -> e 5=u -> e 6=.sc (.int .i64 i) -> IsRef S wid room l ids v -> LV S u (liveC now (l.take i)) ms -> (∀j∈ms,j∉ids /\ j≠wid /\ S0.n <=j) -> S.ro=S0.ro -> S0.n <=S.n -> (∀j,j < S0.n -> S.heap j=S0.heap j) ->
  Sat (fin [.tmp 4] (zA AA (.loop tm [] zb3) (st 51 e (fun _=>none) S) ks)) Q:=by
 intro n
 induction n with
 |zero=>
  intro i e S u ms tm hn htm h0 h1 h5 h6 hR hU hms hro hnn hfr;rw [vj];generalize hkk:Kn.loop tm [] zb3::ks=kk;have hc:¬(i:Int) < l.length:=by omega
  rw [List.take_of_length_le (by omega)]at hU;simp [zb3,zk,htm,h0,h6,wq hR,hR.lv.len,hc];rw [<- hkk];simp;exact hk _ _ u ms (by simp [zk,h0]) (by simp [zk,h5]) hR hU hms hro hnn hfr
 |succ n ih=>
  intro i e S u ms tm hn htm h0 h1 h5 h6 hR hU hms hro hnn hfr;rw [vj];generalize hkk:Kn.loop tm [] zb3::ks=kk;have hc:(i:Int) < l.length:=by omega
  have hlt:i < l.length:=by omega
  obtain ⟨p,hp⟩:∃p,l[i]?=some p:=⟨l[i],by simp [hlt]⟩;obtain ⟨id,hid,hat,hh⟩:=hR.lv.at_ hlt;have w1:IntKind.i64.wrap ((i:Int)+1)=((i+1:Nat):Int):=w64 (by omega);by_cases hlive:now < p.2
  ·obtain ⟨u',S',ha,hU',hro',hn',hh'⟩:=hU.push hR.sr p (by
    have:(liveC now (l.take i)).length <=i:=Nat.le_trans live_len (by simp;omega);omega)
   have hR':=hR.step (S':=S') (hh' wid hR.lt (fun h=>(hms wid h).2.1 rfl)) (fun j hj=>hh' j (hR.lv.lt j hj) (fun h=>(hms j h).1 hj)) hro' (by omega);simp [zb3,zk,htm,h0,h1,h5,h6,wq hR,hR.lv.len,hc,hat,yg hh,zdK hp,hlive,zw,ha,w1];rw [<- hkk,wV];refine ih (i+1) _ S' u' [S.n] tm (by omega) htm (by simp [zk,htm,h0]) (by simp [zk,htm,h1]) (by simp [zk]) (by simp [zk]) hR' (by rw [zqW hp,if_pos hlive];exact hU') ?_ (hro'.trans hro) (by omega) ?_
   ·intro j hj;simp at hj;subst hj;exact ⟨fun h=>by have:=hR.lv.lt _ h;omega,by have:=hR.lt;omega,hnn⟩
   ·intro j hj;rw [hh' j (by omega) (fun h=>by have:=(hms j h).2.2;omega)];exact hfr j hj
  ·simp [zb3,zk,htm,h0,h1,h5,h6,wq hR,hR.lv.len,hc,hat,yg hh,zdK hp,hlive,zw,w1];rw [<- hkk,wV];exact ih (i+1) _ S u ms tm (by omega) htm (by simp [zk,htm,h0]) (by simp [zk,htm,h1]) (by simp [zk,htm,h5]) (by simp [zk]) hR (by rw [zqW hp,if_neg hlive];exact hU) hms hro hnn hfr
theorem zuF {wid:Nat} {room now:Int} (hR:IsRef S wid room l ids v) (hb:l.length <=1000):
 ∃S' ids' v',call 55 [.ptr wid 0 0,.sc (.int .i64 now)] S=some (.sc (.int .i64 (IntKind.i64.wrap (l.length - (liveC now l).length))),S') /\ IsRef S' wid room (liveC now l) ids' v' /\ Frm wid ids S S' /\ ∀j∈ids',S.n <=j:=by
 have key:Sat (call 55 [.ptr wid 0 0,.sc (.int .i64 now)] S) fun r S'=>r=.sc (.int .i64 (IntKind.i64.wrap (l.length - (liveC now l).length))) /\ ∃ids' v',IsRef S' wid room (liveC now l) ids' v' /\ Frm wid ids S S' /\ ∀j∈ids',S.n <=j:=by
  rw [ym a55 (by simp) rfl];simp only [f55];simp [zpY,zk,zw];refine zGx (ids:=ids) (v:=v) (l:=l) (room:=room) (now:=now) (S0:=S) hb ?_ l.length 0 _ S (.lst 2 true []) [] _ (by omega) rfl (by simp [zk]) (by simp [zk]) (by simp [zk]) (by simp [zk]) hR .nil (fun _ h=>by cases h) rfl (Nat.le_refl _) (fun _ _=>rfl);intro e S2 u ms e0 e5 hR2 hU hms hro hn hfr;have hst:∀d rg,za (.st none 1) d rg S2 [.ptr wid 0 1,u]=some (.junk,none,S2.set wid (some (.rows 2 [[.sc (.int .i64 room),u]]))):=by
   intro d rg;simp only [za,hR2.ro,hU.cells,List.all_cons,hU.cell,List.all_nil,Bool.and_self,List.length_singleton,and_self,if_true,hR2.w];simp [setCells]
  simp [zk,e0,e5,wq hR2,hR2.lv.len,hU.len,hst,y6,jc];refine ⟨ms,⟨u,⟨by simp [AS.set],hU.step ?_ rfl (Nat.le_refl _),fun h=>(hms _ h).2.1 rfl,hR2.ro,hR2.lt,hR2.sr⟩⟩,⟨hro,hn,?_⟩,fun j hj=>(hms j hj).2.2⟩
  ·intro j hj;exact if_neg (hms j hj).2.1
  ·intro j hj hjw hji;show (if j=wid then _ else _)=_;rw [if_neg hjw];exact hfr j hj
 obtain ⟨r,S',h1,rfl,ids',v',h2,h3,h4⟩:=key;exact ⟨S',ids',v',h1,h2,h3,h4⟩
theorem zol {a:List (ByteArray×Int)}:(jj a).isEmpty=a.isEmpty:=by cases a<;>rfl
theorem zGq {x:AV} {ys:List (ByteArray×Int)} (hro:S.ro <=S.n) (hx:zv 2 S x=some (jj ys)) (hb:ys.length * 24 <=140737488355328):
 ∃S',(∀d rg,za (.append 2 24) d rg S [.lst 2 true [],x]=some (.arr S.n 2 0 ys.length none,none,S')) /\ LV S' (.arr S.n 2 0 ys.length none) ys [S.n] /\ S'.ro=S.ro /\ S'.n=S.n+1 /\ ∀j,j < S.n -> S'.heap j=S.heap j:=by
 refine ⟨S.new (.rows 2 (jj ys)),?_,.arr (by simp [AS.new]) hro (Nat.lt_succ_self _),rfl,rfl,fun j hj=>if_neg (by omega)⟩;intro d rg;simp only [za,hx,Option.bind_some];unfold jd;rw [zol];cases ys with
 |nil=>rfl
 |cons y ys=>
  simp only [List.isEmpty_cons,Bool.false_eq_true,if_false,List.isEmpty_nil,Bool.true_or,Bool.true_and,List.length_nil,Nat.zero_add,List.nil_append,decide_eq_true_eq];rw [if_pos (by rw [zco];exact hb),zco];rfl
theorem zCU {id:Nat} {x:AV} {ys:List (ByteArray×Int)} (h:LV S (.arr id 2 0 l.length none) l [id]) (hro:S.ro <=S.n) (hx:zv 2 S x=some (jj ys)) (hb:(l.length+ys.length) * 24 <=140737488355328):
 ∃v' S' ids',(∀d rg,za (.append 2 24) d rg S [.arr id 2 0 l.length none,x]=some (v',none,S')) /\ LV S' v' (l++ys) ids' /\ S'.ro=S.ro /\ S.n <=S'.n /\ (∀j,j < S.n -> j≠id -> S'.heap j=S.heap j) /\ ∀j∈ids',j=id \/ S.n <=j:=by
 cases ys with
 |nil=>
  refine ⟨_,S,[id],?_,by simpa using h,rfl,Nat.le_refl _,fun _ _ _=>rfl,fun j hj=>.inl (by simpa using hj)⟩;intro d rg;simp only [za,hx,Option.bind_some];unfold jd;rfl
 |cons y ys=>
  have hs:S.heap id=some (.rows 2 (jj l)) /\ S.ro <=id /\ id < S.n:=by
   generalize hv:AV.arr id 2 0 l.length none=v at h;cases h with
   |arr h ro lt=>cases hv;exact ⟨h,ro,lt⟩
  obtain ⟨h1,h2,h3⟩:=hs;refine ⟨.arr S.n 2 0 (l++y::ys).length none,(S.set id none).new (.rows 2 (jj (l++y::ys))),[S.n],?_,.arr (by simp [AS.new,AS.set]) hro (Nat.lt_succ_self _),rfl,Nat.le_succ _,?_,fun j hj=>.inr (by simp at hj;omega)⟩
  ·intro d rg;simp only [za,hx,Option.bind_some];unfold jd;rw [zol];simp only [List.isEmpty_cons,Bool.false_eq_true,if_false,h1,zco,List.length_cons]at hb ⊢;rw [if_neg (by simp;omega)];rw [if_neg (by simp),if_pos ⟨trivial,hb⟩,List.take_of_length_le (by rw [zco];exact Nat.le_refl _)];simp [jj]
  ·intro j hj hne;show (if j=S.n then _ else if j=id then _ else _)=_;rw [if_neg (by omega),if_neg hne]
theorem LV.front (h:LV S v l ids) {at_:Nat} (ha:at_ <=l.length):∃x,pev (.sliceL 2 false true false) [v,.sc (.int .i64 (at_:Int))]=some x /\ ∀S',(∀j∈ids,S'.heap j=S.heap j) -> zv 2 S' x=some (jj (l.take at_)):=by
 cases h with
 |nil=>
  rename_i z;have:at_=0:=by simpa using ha
  subst this;exact ⟨.lst 2 true [],by simp [pev,zK],fun S' _=>by simp [zv,jj]⟩
 |arr h ro lt=>
  rename_i id;refine ⟨.arr id 2 0 at_ none,by simp [pev,zK,ha],fun S' hs=>?_⟩;simp only [zv,if_true,AS.slice,Nat.zero_le,hs id (by simp),h];simp [jj,ha]
theorem LV.back (h:LV S v l ids) {at_:Nat} (ha:at_ <=l.length):∃x,pev (.sliceL 2 true false false) [v,.sc (.int .i64 (at_:Int))]=some x /\ ∀S',(∀j∈ids,S'.heap j=S.heap j) -> zv 2 S' x=some (jj (l.drop at_)):=by
 cases h with
 |nil=>
  rename_i z;have:at_=0:=by simpa using ha
  subst this;exact ⟨.lst 2 true [],by simp [pev,zK],fun S' _=>by simp [zv,jj]⟩
 |arr h ro lt=>
  rename_i id;refine ⟨.arr id 2 at_ (l.length - at_) none,by simp [pev,zK,ha],fun S' hs=>?_⟩;simp only [zv,if_true,AS.slice,Nat.zero_le,hs id (by simp),h];have:at_+(l.length - at_) <=(jj l).length:=by rw [zco];omega
  simp only [this,and_self,if_true];rw [List.take_of_length_le (by simp [jj])];simp [jj]
def atL (id:ByteArray):List (ByteArray×Int) -> Nat -> Nat -> Nat
 |[],_,a=>a
 |p::l,i,a=>atL id l (i+1) (if sLt p.1 id then i+1 else a)
theorem zne {id:ByteArray}:∀{l:List (ByteArray×Int)} {i a:Nat},a <=i -> atL id l i a <=i+l.length
 |[],i,a,h=>by simpa [atL] using h
 |p::l,i,a,h=>by
  have:=@zne id l (i+1) (if sLt p.1 id then i+1 else a) (by split<;>omega);simp only [atL,List.length_cons];omega
theorem zuq {id:ByteArray} {p:ByteArray×Int}:∀{D R:List (ByteArray×Int)},lookC id D=none -> p.1=id -> lookC id (D++p::R)=some p.2 /\ ∀x,kX id x (D++p::R)=D++(id,x)::R
 |[],R,_,h=>by simp [lookC,kX,h]
 |q::D,R,hD,h=>by
  simp only [lookC]at hD;split at hD
  ·cases hD
  ·rename_i hq;obtain ⟨h1,h2⟩:=zuq (R:=R) hD h;simp only [List.cons_append,lookC,hq,if_false,kX];exact ⟨h1,fun x=>by rw [h2 x]⟩
theorem zoY {id:ByteArray}:∀{D R:List (ByteArray×Int)},lookC id D=none -> lookC id (D++R)=lookC id R
 |[],R,_=>rfl
 |q::D,R,hD=>by
  simp only [lookC]at hD;split at hD
  ·cases hD
  ·rename_i hq;simp only [List.cons_append,lookC,hq,if_false];exact zoY hD
theorem zIl {wid:Nat} {room t:Int} {id:ByteArray} {ks:List Kn} {Q:AV -> AS -> Prop} (hb:l.length <=1000) (hR:IsRef S wid room l ids v)
 (hk1:∀old e S2,lookC id l=some old -> e 8=.sc (.int .i64 9) -> IsRef S2 wid room (kX id (max old t) l) ids v -> S2.ro=S.ro -> S2.n=S.n -> (∀j,j∉ids -> S2.heap j=S.heap j) -> Sat (fin [.tmp 8] (unw AA (some (.ret,st 100 e (fun _=>none) S2)) ks)) Q)
 (hk0:∀e,lookC id l=none -> e 0=.ptr wid 0 0 -> e 1=.sc (.string id) -> e 2=.sc (.int .i64 t) -> e 9=.sc (.int .i64 (atL id l 0 0:Nat)) -> Sat (fin [.tmp 8] (unw AA (some (.exit 0,st 100 e (fun _=>none) S)) ks)) Q):
 ∀(R D:List (ByteArray×Int)) (a:Nat) (e:Nat -> AV) (tm:List Nat),l=D++R -> tm=[8,18,19,20,21,22,23,24,25,26,27,28,29,30,31,32,33,34,35,36,37,38,39,40,41,42,43,44,45,46,47,48,49,50,51,52,53,54,55,56,57,58,59,60,61,62,63,64,65] ->
  lookC id D=none -> atL id l 0 0=atL id R D.length a -> e 0=.ptr wid 0 0 -> e 1=.sc (.string id) -> e 2=.sc (.int .i64 t) -> e 9=.sc (.int .i64 (a:Int)) -> e 10=.sc (.int .i64 D.length) ->
  Sat (fin [.tmp 8] (zA AA (.loop tm [] zbi) (st 100 e (fun _=>none) S) ks)) Q:=by
 intro R
 induction R with
 |nil=>
  intro D a e tm hl htm hD ha h0 h1 h2 h9 h10;rw [vj];generalize hkk:Kn.loop tm [] zbi::ks=kk;rw [List.append_nil]at hl;subst hl;simp [zbi,zk,htm,h0,h10,wq hR,hR.lv.len];rw [<- hkk];simp;exact hk0 _ hD (by simp [zk,h0]) (by simp [zk,h1]) (by simp [zk,h2]) (by rw [ha];simp [zk,h9,atL])
 |cons p R ih=>
  intro D a e tm hl htm hD ha h0 h1 h2 h9 h10;rw [vj];generalize hkk:Kn.loop tm [] zbi::ks=kk;have hlen:l.length=D.length+(R.length+1):=by rw [hl];simp
  have hlt:D.length < l.length:=by omega
  have hc:(D.length:Int) < (l.length:Int):=by omega
  have hp:l[D.length]?=some p:=by rw [hl];simp
  obtain ⟨q,hid,hat,hh⟩:=hR.lv.at_ hlt;have w1:IntKind.i64.wrap ((D.length:Int)+1)=((D.length+1:Nat):Int):=w64 (by omega);by_cases hpi:p.1=id
  ·obtain ⟨k1,k2⟩:=zuq (R:=R) hD hpi;have hro:=hR.lv;have hqr:S.ro <=q:=by
    rw [hid]at hro;generalize hv:v=u at hro;cases hro with
    |arr h ro lt=>exact ro
   have hst:∀d rg,za (.st none 1) d rg S [.ptr q D.length 1,.sc (.int .i64 (max p.2 t))]=some (.junk,none,S.set q (some (.rows 2 (jj (kX id (max p.2 t) l))))):=by
    intro d rg;simp only [za,hqr,zIh,List.all_cons,zCH,List.all_nil,Bool.and_self,List.length_singleton,and_self,if_true,hh,zdK hp,Option.bind_some];have hset:(jj l).set D.length (setCells [.sc (.string p.1),.sc (.int .i64 p.2)] 1 [.sc (.int .i64 (max p.2 t))])=jj (kX id (max p.2 t) l):=by
     rw [hl,k2];simp [jj,setCells,hpi]
    rw [hset];simp
   simp [zbi,zk,htm,h0,h1,h2,h10,wq hR,hR.lv.len,hc,hat,yg hh,zdK hp,hpi,hst];rw [<- hkk];simp;have hqids:∀j,j∉ids -> j≠q:=fun j hj h=>hj (by rw [hid,h];simp);have hsl:(kX id (max p.2 t) l).length=l.length:=by rw [hl,k2];simp
   refine hk1 p.2 _ _ (by rw [hl];exact k1) (by simp [zk]) ⟨by show (if wid=q then _ else _)=_;rw [if_neg (hqids wid hR.ne)];exact hR.w,?_,hR.ne,hR.ro,hR.lt,hR.sr⟩ rfl rfl (fun j hj=>if_neg (hqids j hj));have hlv:=hR.lv;rw [hid]at hlv ⊢;generalize hv:v=u at hlv ⊢;cases hlv with
   |arr h ro lt=>
    rw [<- hsl];exact .arr (by simp [AS.set]) ro lt
  ·have hD':lookC id (D++[p])=none:=by rw [zoY hD];simp [lookC,hpi]
   by_cases hless:sLt p.1 id=true
   ·simp [zbi,zk,htm,h0,h1,h2,h10,wq hR,hR.lv.len,hc,hat,yg hh,zdK hp,hpi,hless,w1];rw [<- hkk,wV];exact ih (D++[p]) (D.length+1) _ tm (by rw [hl];simp) htm hD' (by rw [ha];simp [atL,hless]) (by simp [zk,htm,h0]) (by simp [zk,htm,h1]) (by simp [zk,htm,h2]) (by simp [zk]) (by simp [zk])
   ·have hless:sLt p.1 id=false:=by simpa using hless
    simp [zbi,zk,htm,h0,h1,h2,h10,wq hR,hR.lv.len,hc,hat,yg hh,zdK hp,hpi,hless,w1];rw [<- hkk,wV];exact ih (D++[p]) a _ tm (by rw [hl];simp) htm hD' (by rw [ha];simp [atL,hless]) (by simp [zk,htm,h0]) (by simp [zk,htm,h1]) (by simp [zk,htm,h2]) (by simp [zk,htm,h9]) (by simp [zk])
theorem LV.one {id:Nat} (h:LV S v l [id]):v=.arr id 2 0 l.length none:=by
 cases h;rfl
theorem IsRef.store {wid:Nat} {room:Int} (h:IsRef S wid room l ids v) {u:AV} {l':List (ByteArray×Int)} {ms:List Nat} (hU:LV S u l' ms) (hms:wid∉ms):
 (∀d rg,za (.st none 1) d rg S [.ptr wid 0 1,u]=some (.junk,none,S.set wid (some (.rows 2 [[.sc (.int .i64 room),u]])))) /\ IsRef (S.set wid (some (.rows 2 [[.sc (.int .i64 room),u]]))) wid room l' ms u:=by
 constructor
 ·intro d rg;simp only [za,h.ro,hU.cells,List.all_cons,hU.cell,List.all_nil,Bool.and_self,List.length_singleton,and_self,if_true,h.w];simp [setCells]
 ·refine ⟨by simp [AS.set],hU.step ?_ rfl (Nat.le_refl _),hms,h.ro,h.lt,h.sr⟩;intro j hj;refine if_neg ?_;rintro rfl;exact hms hj
def insR (id:ByteArray) (t:Int) (l:List (ByteArray×Int)):List (ByteArray×Int):=(l.take (atL id l 0 0)++[(id,t)])++l.drop (atL id l 0 0)
def seenR (room:Int) (l:List (ByteArray×Int)) (id:ByteArray) (t now:Int):Int×List (ByteArray×Int):=
 if t <=now then (5,l) else
 match lookC id (liveC now l) with
 |some old=>(9,kX id (max old t) (liveC now l))
 |none=>if room <=(liveC now l).length then (10,liveC now l) else (0,insR id t (liveC now l))
theorem Frm.trans {wid:Nat} {ids ids1:List Nat} {S1 S2:AS} (h:Frm wid ids S S1) (h2:Frm wid ids1 S1 S2) (hi:∀j∈ids1,S.n <=j):Frm wid ids S S2:=
 ⟨h2.ro.trans h.ro,Nat.le_trans h.n h2.n,fun j hj hw hn=>by
  rw [h2.heap j (Nat.lt_of_lt_of_le hj h.n) hw (fun hh=>by have:=hi j hh;omega),h.heap j hj hw hn]⟩
theorem zzt {wid:Nat} {room t now:Int} {id:ByteArray} (hR:IsRef S wid room l ids v) (hb:l.length <=1000):
 ∃S' ids' v',call 56 [.ptr wid 0 0,.sc (.string id),.sc (.int .i64 t),.sc (.int .i64 now)] S=some (.sc (.int .i64 (seenR room l id t now).1),S') /\ IsRef S' wid room (seenR room l id t now).2 ids' v' /\ Frm wid ids S S' /\ ∀j∈ids',j∈ids \/ S.n <=j:=by
 have key:Sat (call 56 [.ptr wid 0 0,.sc (.string id),.sc (.int .i64 t),.sc (.int .i64 now)] S) fun r S'=>r=.sc (.int .i64 (seenR room l id t now).1) /\ ∃ids' v',IsRef S' wid room (seenR room l id t now).2 ids' v' /\ Frm wid ids S S' /\ ∀j∈ids',j∈ids \/ S.n <=j:=by
  rw [ym a56 (by simp) rfl];simp only [f56];by_cases ht:t <=now
  ·simp [zld,zk,ht,y6,jc,seenR];exact ⟨ids,⟨v,hR⟩,⟨rfl,Nat.le_refl _,fun _ _ _ _=>rfl⟩,fun j hj=>.inl hj⟩
  ·obtain ⟨S1,ids1,v1,p1,hR1,hF1,hi1⟩:=zuF (now:=now) hR hb;simp [zld,zk,ht,p1];have hkl:(liveC now l).length <=1000:=Nat.le_trans live_len hb;unfold seenR;rw [if_neg ht];generalize liveC now l=k at hR1 hkl;have hi1':∀j∈ids1,S.n <=j:=hi1;refine zIl (ids:=ids1) (v:=v1) (l:=k) (S:=S1) (room:=room) (t:=t) (id:=id) hkl hR1 ?_ ?_ k [] 0 _ _ rfl rfl rfl rfl (by simp [zk]) (by simp [zk]) (by simp [zk]) (by simp [zk]) (by simp [zk])
   ·intro old e S2 hl h8 hR2 hro hn hh;simp [h8,y6,jc,hl];refine ⟨ids1,⟨v1,hR2⟩,hF1.trans ⟨hro,Nat.le_of_eq hn.symm,fun j _ _ hj=>hh j hj⟩ hi1,fun j hj=>.inr (hi1 j hj)⟩
   ·intro e hl h0 h1 h2 h9;have hat:atL id k 0 0 <=k.length:=by have:=@zne id k 0 0 (Nat.le_refl _);omega
    by_cases hroom:room <=k.length
    ·simp [zk,h0,wq hR1,zpN hR1,hR1.lv.len,hroom,y6,jc,hl];exact ⟨ids1,⟨v1,hR1⟩,hF1,fun j hj=>.inr (hi1 j hj)⟩
    ·rw [hl];simp only [if_neg hroom];generalize hins:insR id t k=k';unfold insR at hins;generalize atL id k 0 0=a at hat h9 hins;obtain ⟨x1,f1,f2⟩:=hR1.lv.front hat;obtain ⟨x2,b1,b2⟩:=hR1.lv.back hat;have f3:=f2 S1 (fun _ _=>rfl);have hya:(k.take a).length <=1000:=by simp;omega
     generalize k.take a=ya at f3 hins hya;obtain ⟨S2,a1,a2,a3,a4,a5⟩:=zGq (S:=S1) (x:=x1) (ys:=ya) hR1.sr f3 (by omega);obtain ⟨v3,S3,c1,c2,c3,c4,c5⟩:=a2.push (by have:=hR1.sr;omega) (id,t) (by omega);have hv3:=c2.one;subst hv3;have hyb:(ya++[(id,t)]).length <=1001:=by simp;omega
     generalize ya++[(id,t)]=yb at c1 c2 hyb hins;have g3:∀j,j < S1.n -> S3.heap j=S1.heap j:=fun j hj=>by
      rw [c5 j (by omega) (by simp;omega),a5 j hj]
     have hR3:IsRef S3 wid room k ids1 v1:=hR1.step (g3 _ hR1.lt) (fun j hj=>g3 j (hR1.lv.lt j hj)) (by rw [c3,a3]) (by omega);obtain ⟨v4,S4,ids4,d1,d2,d3,d4,d5,d6⟩:=zCU c2 (x:=x2) (ys:=k.drop a) (by have:=hR1.sr;omega) (b2 S3 (fun j hj=>g3 j (hR1.lv.lt j hj))) (by simp;omega);have g4:∀j,j < S1.n -> S4.heap j=S1.heap j:=fun j hj=>by
      rw [d5 j (by omega) (by omega),g3 j hj]
     have hR4:IsRef S4 wid room k ids1 v1:=hR1.step (g4 _ hR1.lt) (fun j hj=>g4 j (hR1.lv.lt j hj)) (by rw [d3,c3,a3]) (by omega);have hlt:=hR1.lt;obtain ⟨s1,s2⟩:=hR4.store d2 (fun h=>by rcases d6 _ h with h|h<;>omega);rw [hins]at s2;simp [zk,h0,h1,h2,h9,wq hR1,zpN hR1,hR1.lv.len,hroom,f1,a1,zw,vm,c1,wq hR3,b1,d1,s1,y6,jc];refine ⟨ids4,⟨v4,s2⟩,hF1.trans (ids1:=ids1) ⟨by show S4.ro=_;rw [d3,c3,a3],by show S1.n <=S4.n;omega,fun j hj hw _=>?_⟩ hi1,fun j hj=>.inr ?_⟩
     ·show (if j=wid then _ else _)=_;rw [if_neg hw,g4 j hj]
     ·have:=hF1.n;rcases d6 j hj with h|h<;>omega
 obtain ⟨r,S',h1,rfl,ids',v',h2,h3,h4⟩:=key;exact ⟨S',ids',v',h1,h2,h3,h4⟩
theorem zxG {room:Int} (hn:S.ro <=S.n):call 54 [.sc (.int .i64 room)] S=some (.ptr S.n 0 0,S.new (.rows 2 [[.sc (.int .i64 (max room 0)),.lst 0 true []]])) /\
 IsRef (S.new (.rows 2 [[.sc (.int .i64 (max room 0)),.lst 0 true []]])) S.n (max room 0) [] [] (.lst 0 true []):=by
 constructor
 ·rw [ym a54 (by simp) rfl];by_cases h:room < 0
  ·have:max room 0=0:=by omega
   simp [f54,zjP,zk,y6,jc,za,vm,AS.new,h,this]
  ·have:max room 0=room:=by omega
   simp [f54,zjP,zk,y6,jc,za,vm,AS.new,h,this]
 ·exact ⟨by simp [AS.new],.nil,by simp,hn,Nat.lt_succ_self _,Nat.le_succ_of_le hn⟩
def ownR (wid:Nat) (ids:List Nat) (x:Nat):Prop:=x=wid \/ x∈ids
theorem IsRef.lts {wid:Nat} {room:Int} (h:IsRef S wid room l ids v) {x:Nat} (hx:ownR wid ids x):x < S.n:=by
 rcases hx with rfl|hx
 ·exact h.lt
 ·exact h.lv.lt x hx
theorem IsRef.keep {wid:Nat} {room:Int} (h:IsRef S wid room l ids v) {S':AS} (hr:S'.ro=S.ro) (hn:S.n <=S'.n) (hh:∀x,x < S.n -> ownR wid ids x -> S'.heap x=S.heap x):IsRef S' wid room l ids v:=
 h.step (hh wid h.lt (.inl rfl)) (fun j hj=>hh j (h.lv.lt j hj) (.inr hj)) hr hn
theorem cSeen {wid:Nat} {room t now:Int} {id:ByteArray} (hR:IsRef S wid room l ids v) (hb:l.length <=1000):
 ∃S' ids' v',call 56 [.ptr wid 0 0,.sc (.string id),.sc (.int .i64 t),.sc (.int .i64 now)] S=some (.sc (.int .i64 (seenR room l id t now).1),S') /\ IsRef S' wid room (seenR room l id t now).2 ids' v' /\ Chg S S' (ownR wid ids) (ownR wid ids'):=by
 obtain ⟨S',ids',v',h1,h2,h3,h4⟩:=zzt (t:=t) (now:=now) (id:=id) hR hb;refine ⟨S',ids',v',h1,h2,h3.ro,h3.n,fun x hx hn=>⟨h3.heap x hx (fun e=>hn (.inl e)) (fun e=>hn (.inr e)),?_⟩⟩;rintro (e|e)
 ·exact hn (.inl e)
 ·rcases h4 x e with e|e
  ·exact hn (.inr e)
  ·omega
theorem cNew {room:Int} (hn:S.ro <=S.n):∃S',call 54 [.sc (.int .i64 room)] S=some (.ptr S.n 0 0,S') /\ IsRef S' S.n (max room 0) [] [] (.lst 0 true []) /\ Chg S S' (fun _=>False) (ownR S.n []):=by
 obtain ⟨h1,h2⟩:=zxG (S:=S) (room:=room) hn;refine ⟨_,h1,h2,rfl,Nat.le_succ _,fun x hx _=>⟨if_neg (by omega),?_⟩⟩;rintro (e|e)
 ·omega
 ·cases e
theorem seenR_len {room t now:Int} {id:ByteArray}:(seenR room l id t now).2.length <=l.length+1:=by
 have hl:∀k:List (ByteArray×Int),∀x,(lookC id k).isSome -> (kX id x k).length=k.length:=by
  intro k
  induction k with
  |nil=>intro x h;cases h
  |cons p k ih=>
   intro x h;unfold kX;by_cases hp:p.1=id
   ·rw [if_pos hp];rfl
   ·rw [if_neg hp,List.length_cons,List.length_cons,ih x];unfold lookC at h;rw [if_neg hp]at h;exact h
 have hv:(liveC now l).length <=l.length:=live_len;unfold seenR;split
 ·simp
 ·cases hk:lookC id (liveC now l) with
  |some old=>
   show (kX id (max old t) (liveC now l)).length <=_;rw [hl _ _ (by rw [hk];rfl)];omega
  |none=>
   show (if room <=(liveC now l).length then ((10:Int),liveC now l) else (0,insR id t (liveC now l))).2.length <=_;split
   ·show (liveC now l).length <=_;omega
   ·show (insR id t (liveC now l)).length <=_;unfold insR;simp;omega
end
end Abs.Rf
namespace Abs
open Go
structure Us where
 name:ByteArray
 key:T
 set:List ByteArray
 seed:T
 tok:Tk
 fails:Int
def Us.row (u:Us):List AV:=[.sc (.string u.name),.sc (.int .i64 u.key.kind),.sc (.string u.key.name),zf u.key.kids,zB u.set,.sc (.int .i64 u.seed.kind),.sc (.string u.seed.name),zf u.seed.kids,
 .sc (.int .i64 u.tok.counter),.sc (.int .i64 u.tok.look),.sc (.int .i64 u.tok.sync),.sc (.int .i64 u.tok.pending),.sc (.int .i64 u.tok.fails),.sc (.int .i64 u.tok.limit),.sc (.int .i64 u.fails)]
theorem Us.row_len {u:Us}:u.row.length=15:=rfl
theorem Us.row_cell {u:Us}:u.row.all AV.isCell=true:=rfl
@[simp] theorem Us.frz {S:AS} {b d:Nat} {u:Us}:zE (S.frzTo b d) u.row=some u.row:=by unfold Us.row;simp
@[simp] theorem Us.pure {u:Us}:jR u.row=true:=by unfold Us.row;simp
@[simp] theorem Us.nrm {u:Us}:yU u.row=u.row:=by unfold Us.row;simp
theorem Us.take {u:Us}:List.take 15 u.row=u.row:=rfl
def zU:Us:=⟨⟨#[]⟩,tZ,[],tZ,⟨0,0,0,0,0,0⟩,0⟩
theorem zo2:zU.row=[.s ⟨#[]⟩,.i 0,.s ⟨#[]⟩,lstN 0 [],lstN 0 [],.i 0,.s ⟨#[]⟩,lstN 0 [],.i 0,.i 0,.i 0,.i 0,.i 0,.i 0,.i 0]:=rfl
structure AtB (S:AS) (kb ub:Nat) (u:Us):Prop where
 h1:S.heap kb=some (.rows 1 [[.arr ub 15 0 1 none]])
 h2:S.heap ub=some (.rows 15 [u.row])
structure IsB (S:AS) (kb ub:Nat) (u:Us):Prop extends AtB S kb ub u where
 r1:S.ro <=kb
 r2:S.ro <=ub
 l1:kb < S.n
 l2:ub < S.n
 ne:kb≠ub
def qR (kb ub x:Nat):Prop:=x=kb \/ x=ub
section
variable {S:AS} {kb ub:Nat} {u:Us}
theorem AtB.ro (h:AtB S kb ub u) (r:Nat):AtB {S with ro:=r} kb ub u:=⟨h.h1,h.h2⟩
theorem AtB.list (h:AtB S kb ub u) (d:Option Nat) (rg:Nat -> Option (List AV)):za (.ld none 1 false) d rg S [.ptr kb 0 0]=some (.arr ub 15 0 1 none,none,S):=by rw [yg h.h1];rfl
theorem at0:pev (.iaddr 15) [.arr ub 15 0 1 none,.sc (.int .i64 0)]=some (.ptr ub 0 0):=by
 rw [show (0:Int)=((0:Nat):Int) from rfl,zkB (by omega) (by omega)];rfl
theorem AtB.uname (h:AtB S kb ub u) (d:Option Nat) (rg:Nat -> Option (List AV)):za (.ld none 1 false) d rg S [.ptr ub 0 0]=some (.sc (.string u.name),none,S):=by rw [yg h.h2];rfl
theorem AtB.ufails (h:AtB S kb ub u) (d:Option Nat) (rg:Nat -> Option (List AV)):za (.ld none 1 false) d rg S [.ptr ub 0 14]=some (.sc (.int .i64 u.fails),none,S):=by rw [yg h.h2];rfl
theorem AtB.utok (h:AtB S kb ub u) (d:Option Nat) (rg:Nat -> Option (List AV)):za (.ld none 6 true) d rg S [.ptr ub 0 8]=some (.agg u.tok.cells,none,S):=by rw [yg h.h2];rfl
theorem AtB.urow (h:AtB S kb ub u) (d:Option Nat) (rg:Nat -> Option (List AV)):za (.ld none 15 true) d rg S [.ptr ub 0 0]=some (.agg u.row,none,S):=by rw [yg h.h2];rfl
def u0 (u:Us) (n:ByteArray):Int:=if u.name=n then 0 else -1
theorem zjJ (h:AtB S kb ub u) {n:ByteArray}:call 345 [.ptr kb 0 0,.sc (.string n)] S=some (.sc (.int .i64 (u0 u n)),S):=by
 rw [zh zr0 rfl (by simp) rfl];simp only [zeA];simp [-zg,zkD];have h':=h.ro S.n;refine jY (α:=Nat) (R:=fun _ r=>zW S r=some (.sc (.int .i64 (u0 u n)),S)) (fun i e rg S'=>i <=1 /\ S'={S with ro:=S.n} /\ e 0=.ptr kb 0 0 /\ e 1=.sc (.string n) /\ e 5=.sc (.int .i64 (i:Nat)) /\ (i=1 -> u.name≠n)) (fun i=>1 - i) ?_ 0 _ _ _ ?_;rotate_left
 ·exact ⟨by omega,rfl,by simp,by simp,by simp,by intro h;omega⟩
 intro kk hkk i e rg S' ⟨hi,hS',h0,h1,h5,hno⟩ ih;subst hS';by_cases hc:i < 1
 ·have hi0:i=0:=by omega
  subst hi0;by_cases hn:u.name=n
  ·simp [-zg,zfv,h0,h1,h5,h'.list,at0,h'.uname,hn];rw [hkk];simp [u0,hn]
  ·simp [-zg,zfv,h0,h1,h5,h'.list,at0,h'.uname,hn];exact ih 1 _ _ _ (by omega) (fun _ h=>h) ⟨by omega,rfl,by simp [h0],by simp [h1],by simp;rfl,fun _=>hn⟩
 ·have hi1:i=1:=by omega
  subst hi1;simp [-zg,zfv,h0,h5,h'.list];rw [hkk];simp [u0,hno rfl]
theorem zsb (h:AtB S kb ub u) {n:ByteArray}:call 339 [.ptr kb 0 0,.sc (.string n)] S=some (if u.name=n then .tup [.agg u.row,.b true] else .tup [.agg zU.row,.b false],S):=by
 rw [zh zFC rfl (by simp) rfl];have h':=h.ro S.n;have qY:=zjJ (n:=n) h';have hro:=h'.urow;by_cases hn:u.name=n
 ·simp only [u0,if_pos hn]at qY;rw [if_pos hn];have hc:=@Us.row_cell u;have hl:=@Us.row_len u;have hk:=@Us.take u;have hf:=fun S b d=>@Us.frz S b d u;have hp:=@Us.pure u;generalize u.row=r at *;simp [zfL,zkR,qY,h'.list,at0,hro,hc,hl,hk,hf,hp]
 ·simp only [u0,if_neg hn]at qY;rw [if_neg hn];simp [zfL,zkR,qY,zo2]
theorem zyY (h:AtB S kb ub u) {n:ByteArray}:call 341 [.ptr kb 0 0,.sc (.string n)] S=some (.sc (.bool (!(decide (u.name=n)) ||decide (5 <=u.fails))),S):=by
 rw [zh zDX rfl (by simp) rfl];have h':=h.ro S.n;have e339:=zsb (n:=n) h';by_cases hn:u.name=n
 ·rw [if_pos hn]at e339;simp [zfq,zmk,e339,hn,Us.row]
 ·rw [if_neg hn]at e339;simp [zfq,zmk,e339,hn,zo2]
theorem IsB.keep (h:IsB S kb ub u) {S':AS} (hr:S'.ro=S.ro) (hn:S.n <=S'.n) (hh:∀x,x < S.n -> qR kb ub x -> S'.heap x=S.heap x):IsB S' kb ub u:=
 ⟨⟨(hh _ h.l1 (.inl rfl)).trans h.h1,(hh _ h.l2 (.inr rfl)).trans h.h2⟩,by rw [hr];exact h.r1,by rw [hr];exact h.r2,Nat.lt_of_lt_of_le h.l1 hn,Nat.lt_of_lt_of_le h.l2 hn,h.ne⟩
theorem IsB.lts (h:IsB S kb ub u) {x:Nat} (hx:qR kb ub x):x < S.n:=by
 rcases hx with rfl|rfl
 ·exact h.l1
 ·exact h.l2
theorem IsB.st (h:IsB S kb ub u) {col sz:Nat} {x:AV} {u':Us} (hl:x.cells.length=sz) (hc:x.cells.all AV.isCell=true) (hr:setCells u.row col x.cells=u'.row) (hle:col+sz <=15) (d:Option Nat) (rg:Nat -> Option (List AV)):
 za (.st none sz) d rg S [.ptr ub 0 col,x]=some (.junk,none,S.set ub (some (.rows 15 [u'.row]))):=by
 simp only [za,h.h2];rw [if_pos ⟨h.r2,hc,hl⟩];simp only [List.getElem?_cons_zero,Option.bind_some];rw [if_pos (show col+sz <=u.row.length from hle),hr];rfl
theorem IsB.set (h:IsB S kb ub u) {u':Us}:IsB (S.set ub (some (.rows 15 [u'.row]))) kb ub u':=
 ⟨⟨(if_neg h.ne).trans h.h1,if_pos rfl⟩,h.r1,h.r2,h.l1,h.l2,h.ne⟩
theorem IsB.chg {u':Us}:Chg S (S.set ub (some (.rows 15 [u'.row]))) (qR kb ub) (qR kb ub):=⟨rfl,Nat.le_refl _,fun x _ hx=>⟨if_neg fun e=>hx (.inr e),hx⟩⟩
theorem zub (h:IsB S kb ub u) (hf:0 <=u.fails /\ u.fails < 4611686018427387904):∃S',call 242 [.ptr kb 0 0,.sc (.string u.name)] S=some (.sc (.int .i64 0),S') /\ IsB S' kb ub {u with fails:=u.fails+1} /\ Chg S S' (qR kb ub) (qR kb ub):=by
 rw [ym zHr (by simp) rfl];have qY:=zjJ (n:=u.name) h.toAtB;simp only [u0,if_true]at qY;have w1:IntKind.i64.wrap (u.fails+1)=u.fails+1:=w64 (by omega);have hst:=h.st (col:=14) (sz:=1) (x:=.sc (.int .i64 (u.fails+1))) (u':={u with fails:=u.fails+1}) rfl rfl rfl (by omega);refine ⟨_,?_,h.set (u':={u with fails:=u.fails+1}),IsB.chg⟩;simp [ziG,znS,qY,h.list,at0,h.ufails,w1,hst]
theorem zFx (h:IsB S kb ub u):∃S',call 349 [.ptr kb 0 0,.sc (.string u.name)] S=some (.sc (.int .i64 0),S') /\ IsB S' kb ub {u with fails:=0} /\ Chg S S' (qR kb ub) (qR kb ub):=by
 rw [ym zCl (by simp) rfl];have qY:=zjJ (n:=u.name) h.toAtB;simp only [u0,if_true]at qY;have hst:=h.st (col:=14) (sz:=1) (x:=.sc (.int .i64 0)) (u':={u with fails:=0}) rfl rfl rfl (by omega);refine ⟨_,?_,h.set (u':={u with fails:=0}),IsB.chg⟩;simp [zik,znx,qY,h.list,at0,hst]
theorem zAL (h:IsB S kb ub u) {l:List Int} (hl:l.length <=4611686018427387904) (hf:u.tok.fails < 4611686018427387904):
 ∃S',call 244 [.ptr kb 0 0,.sc (.string u.name),jA l] S=some (.tup (if 5 <=u.fails then [.i 0,.i 7] else [.sc (.int .i64 (u.tok.accept l).2.1),.sc (.int .i64 (u.tok.accept l).2.2)]),S') /\ IsB S' kb ub (if 5 <=u.fails then u else {u with tok:=(u.tok.accept l).1}) /\ Chg S S' (qR kb ub) (qR kb ub):=by
 rw [ym zDF (by simp) rfl];have qY:=zjJ (n:=u.name) h.toAtB;simp only [u0,if_true]at qY;by_cases h5:5 <=u.fails
 ·refine ⟨S,?_,by rw [if_pos h5];exact h,Chg.refl⟩;simp [f244,zkz,qY,h.list,at0,h.ufails,h5]
 ·rw [if_neg h5,if_neg h5];have e348:=fun S=>@zEB S u.tok l hl hf;have hst:=h.st (col:=8) (sz:=6) (x:=.agg (u.tok.accept l).1.cells) (u':={u with tok:=(u.tok.accept l).1}) rfl rfl rfl (by omega);refine ⟨_,?_,h.set (u':={u with tok:=(u.tok.accept l).1}),IsB.chg⟩;generalize u.tok.accept l=r at *;unfold zec at e348;have hc:r.1.cells.all AV.isCell=true:=rfl;have hl:r.1.cells.length=6:=rfl;have ht:List.take 6 r.1.cells=r.1.cells:=rfl;generalize r.1.cells=rc at *;generalize S.set ub _=S' at *;simp [f244,zkz,qY,h.list,at0,h.ufails,h5,h.utok,e348,zec,hc,hl,ht,hst]
def isM (s:ByteArray):Prop:=s=zP \/ s=zG \/ s=zL
theorem zAV {s:ByteArray} (h:isM s):call 464 [.sc (.string s)] S=some (.sc (.bool true),S):=by
 rw [zh zDA rfl (by simp) rfl];rcases h with rfl|rfl|rfl<;>simp [zgp,ztb,zP,zG,zL]
def Us.okk (u:Us):Prop:=u.name≠⟨#[]⟩ /\ (1 <=u.set.length /\ u.set.length <=3) /\ (0 <=u.fails /\ u.fails <=1099511627776) /\ u.tok.right=true /\ (∀s∈u.set,isM s) /\ ∀(i j:Nat) (s:ByteArray),u.set[i]?=some s -> u.set[j]?=some s -> i=j
set_option maxHeartbeats 1000000 in
theorem zHg (h:u.okk):call 416 [.agg u.row] S=some (.sc (.bool true),S):=by
 obtain ⟨hn,⟨hl1,hl3⟩,⟨hf0,hf1⟩,ht,hm,hd⟩:=h;rw [zh zHi rfl (by simp) rfl];have e421:=fun S=>@zkk S u.tok;rw [ht]at e421;have hc:=@Us.row_cell u;have hl:=@Us.row_len u;have hk:=@Us.take u;have r0:u.row.take 1=[.sc (.string u.name)]:=rfl;have r4:(u.row.drop 4).take 1=[zB u.set]:=rfl;have r8:(u.row.drop 8).take 6=u.tok.cells:=rfl;have r14:(u.row.drop 14).take 1=[.sc (.int .i64 u.fails)]:=rfl;have n1:¬(u.set.length:Int) < 1:=by omega
 have n2:¬(3:Int) < u.set.length:=by omega
 have n3:¬u.fails < 0:=by omega
 have n4:¬1099511627776 < u.fails:=by omega
 have r14':u.row.drop 14=[.sc (.int .i64 u.fails)]:=rfl;generalize u.row=r at *;simp only [zje];simp [-zg,zm9,hc,hl,hk,r0,r4,r8,r14,r14',hn,n1,n2,n3,n4,e421];have out:∀(r:Option (AV×AS)),r=some (.sc (.bool true),{S with ro:=S.n}) -> zW S r=some (.sc (.bool true),S):=by rintro _ rfl;simp
 refine jY (α:=Nat) (R:=fun _ r=>zW S r=some (.sc (.bool true),S)) (fun i e rg S'=>i <=u.set.length /\ S'={S with ro:=S.n} /\ rg 1=some r /\ e 1=.reg 1 0 /\ e 3=.sc (.int .i64 (i:Nat))) (fun i=>u.set.length - i) ?_ 0 _ _ _ ?_;rotate_left
 ·refine ⟨by omega,rfl,by simp,?_,by simp⟩;simp
 intro kk hkk i e rg S' ⟨hi,hS',hrg,h1,h3⟩ ih;subst hS';by_cases hc:i < u.set.length
 ·obtain ⟨s,hs⟩:∃s,u.set[i]?=some s:=⟨u.set[i],by simp [hc]⟩;have hci:(i:Int) < (u.set.length:Int):=by omega
  have e464:=fun S=>@zAV S s (hm s (List.mem_of_getElem? hs));have hat:=zaV hs;have w1:IntKind.i64.wrap ((i:Int)+1)=((i+1:Nat):Int):=w64 (by omega);simp [-zg,zj7,hl,hrg,h1,h3,r4,hci,hat,e464];refine jY (α:=Nat) (R:=fun _ r=>zW S r=some (.sc (.bool true),S)) (fun k e rg S'=>k <=i /\ S'={S with ro:=S.n} /\ rg 1=some r /\ e 1=.reg 1 0 /\ e 3=.sc (.int .i64 (i:Nat)) /\ e 4=.sc (.int .i64 (k:Nat))) (fun k=>i - k) ?_ 0 _ _ _ ?_;rotate_left
  ·exact ⟨by omega,rfl,by simp [hrg],by simp [h1],by simp [h3],by simp⟩
  intro kk2 hkk2 k e rg S' ⟨hk',hS',hrg,h1,h3,h4⟩ ih2;subst hS';by_cases hc2:k < i
  ·obtain ⟨s',hs'⟩:∃s,u.set[k]?=some s:=⟨u.set[k]'(by omega),by simp [show k < u.set.length by omega]⟩;have hci2:(k:Int) < (i:Int):=by omega
   have hat':=zaV hs';have hne:s'≠s:=fun e=>by rw [e]at hs';have:=hd k i s hs' hs;omega
   have w2:IntKind.i64.wrap ((k:Int)+1)=((k+1:Nat):Int):=w64 (by omega);simp [-zg,zk3,hl,hrg,h1,h3,h4,r4,hci2,hat,hat',hne.symm,hne,w2];exact ih2 (k+1) _ _ _ (by omega) (fun _ h=>h) ⟨by omega,rfl,by simp [hrg],by simp [h1],by simp [h3],by simp⟩
  ·have hci2:¬(k:Int) < (i:Int):=by omega
   simp [-zg,zk3,hl,hrg,h1,h3,h4,hci2];rw [hkk2];simp [-zg,h3,w1];exact ih (i+1) _ _ _ (by omega) (fun _ h=>h) ⟨by omega,rfl,by simp [hrg],by simp [h1],by simp⟩
 ·have hci:¬(i:Int) < (u.set.length:Int):=by omega
  simp [-zg,zj7,hl,hrg,h1,h3,r4,hci];rw [hkk];simp
end
def Cl.start (c:Cl) (nonce:ByteArray) (sub:T):Cl:={c with on:=true,done:=false,ended:=false,nonce:=nonce,body:=km c.name nonce,wrap:=wh c.ticket c.host sub,ak:=wo sub c.host,base:=tZ,session:=tZ,z1:=false,z2:=true,z3:=true}
theorem ztV {S:AS} {b d:Nat}:∀{l:List (ByteArray×ByteArray)},zE (zE (S.frzTo b d)) (Cl.mrow l)=some (Cl.mrow l)
 |[]=>rfl
 |m::l=>by
  have h:zE (S.frzTo b d) [.sc (.string m.1),.sc (.string m.2)]=some [.sc (.string m.1),.sc (.string m.2)]:=by
   cases d<;>rfl
  have e:Cl.mrow (m::l)=[.sc (.string m.1),.sc (.string m.2)]::Cl.mrow l:=rfl;rw [e];show (zE (S.frzTo b d) [.sc (.string m.1),.sc (.string m.2)]).bind (fun x=>(zE (zE (S.frzTo b d)) (Cl.mrow l)).map (x::·))=_;rw [h,ztV];rfl
theorem ztC:∀{l:List (ByteArray×ByteArray)},qS (Cl.mrow l)=true
 |[]=>rfl
 |m::l=>by
  have e:Cl.mrow (m::l)=[.sc (.string m.1),.sc (.string m.2)]::Cl.mrow l:=rfl;rw [e,qS,ztC];rfl
theorem zzZ {S S':AS} {id sz:Nat} {R:List (List AV)} (hid:S.n <=id) (hh:S'.heap id=some (.rows sz R)) (hf:zE (zE (S'.frzTo S.n 1)) R=some R) (hp:qS R=true):zW S (some (.arr id sz 0 R.length none,S'))=some (lstN sz R,S):=by
 have e2:S'.frzTo S.n 2 (.arr id sz 0 R.length none)=some (lstN sz R):=by
  show ((S'.slice S.n id sz 0 R.length).bind fun r=>zE (zE (S'.frzTo S.n 1)) r).map (lstN sz)=_;rw [wD hh hid];exact congrArg (Option.map (lstN sz)) hf
 show (S'.frzTo S.n 2 _).bind _=_;rw [e2];have:(lstN sz R).pure=true:=hp;simp [this]
def zdU (l:List (ByteArray×ByteArray)):AV:=lstN 2 (Cl.mrow l)
section
variable {S:AS} {id:Nat} {c:Cl} {mv:AV}
theorem zAo {nonce:ByteArray} {sub:T} (h:yq S id c mv) (hn:nonce.size <=4611686018427387904) (hc:c.name.size <=4611686018427387904):
 ∃S',call 138 [.ptr id 0 0,.sc (.string nonce),.agg sub.cells] S=some (.agg ((c.start nonce sub).says zi zi).cells,S') /\ yq S' id (c.start nonce sub) mv /\ Chg S S' (jH id mv) (jH id mv):=by
 rw [ym zxt (by simp) rfl];have e76:=fun S=>@s76 S c.name nonce hc hn;have e246:=fun S=>@zFy S c.ticket c.host sub;have e247:=fun S=>@zAg S sub c.host;have hb:pev (.build [.b false,.b false,.b false,.s ⟨#[]⟩,.i 0,.s ⟨#[]⟩,.lst 0 true [],.i 0,.s ⟨#[]⟩,.lst 0 true [],.i 0,.s ⟨#[]⟩,.lst 0 true [],.i 0,.s ⟨#[]⟩,.lst 0 true [],.i 0,.s ⟨#[]⟩,.lst 0 true []] [(0,1),(3,1),(4,3),(7,3),(10,3)])
  [.b true,.sc (.string nonce),.agg (km c.name nonce).cells,.agg (wh c.ticket c.host sub).cells,.agg (wo sub c.host).cells]=some (.agg (((c.start nonce sub).row mv).take 19)):=by
  rw [zu (km c.name nonce),zu (wh c.ticket c.host sub),zu (wo sub c.host)];simp;rfl
 have hst:=h.st (col:=0) (sz:=19) (x:=.agg (((c.start nonce sub).row mv).take 19)) (c':=c.start nonce sub) (mv':=mv) rfl rfl rfl (by omega);have h':=h.set (c':=c.start nonce sub) rfl;have hg:=h.chg (c':=c.start nonce sub);generalize S.set id _=S' at *;have e248:=zna (p:=zi) (k:=zi) h' rfl;refine ⟨S',?_,h',hg⟩;generalize List.take 19 _=r19 at *;simp [zii,znO,h.name,h.ticket,h.host,e76,e246,e247,hb,hst,e248]
theorem zxr (h:yq S id c mv) (hl:c.marks.length * 32 <=140737488355328):call 120 [.ptr id 0 0] S=some (zdU c.marks,S):=by
 rw [zh zCf rfl (by simp) rfl];have e1:∀d rg,za (.ld none 1 false) d rg {S with ro:=S.n} [.ptr id 0 36]=some (mv,none,{S with ro:=S.n}):=fun d rg=>by rw [yg (S:={S with ro:=S.n}) h.hh];rfl
 have hr:=h.gv.reg;have hrow:zv 2 {S with ro:=S.n} mv=some (Cl.mrow c.marks):=h.gv.rows;have hml:(Cl.mrow c.marks).length=c.marks.length:=by simp [Cl.mrow]
 have e2:call 226 [mv] {S with ro:=S.n}=some (.arr S.n 2 0 c.marks.length none,AS.new {S with ro:=S.n} (.rows 2 (Cl.mrow c.marks))):=by
  rw [zfx zBx (by simp [hr])];simp [qG,hrow,hml,hl]
 simp [-zg,ziw,ztO,e1,hr,e2];rw [<- hml];exact zzZ (Nat.le_refl _) jw ztV ztC
end
def vk:ByteArray:=⟨#[102,105,110,105,115,104]⟩
def kM:ByteArray:=⟨#[101,110,99]⟩
def Cl.endL (c:Cl) (ticket:T):List T×Int -> Cl×Int
 |([l0,l1,l2],0)=>if l1.same (yF c.nonce) && l2.same (z8 ticket) then ({c with session:=l0,ended:=true,on:=false,z3:=false},0) else (c,6)
 |(_,e)=>(c,e)
def Cl.endF (c:Cl) (ticket enc:T):List T×Int -> Cl×Int
 |([f0,f1],0)=>if f1.same (z8 ticket) then c.endL ticket (qz kM 3 (jl (qu f0 c.base) 3 enc)) else (c,6)
 |(_,e)=>(c,e)
def Cl.ends (c:Cl) (ticket enc finish:T):Cl×Int:=if c.done then c.endF ticket enc (qz vk 2 (qw c.ak c.nonce finish)) else (c,11)
theorem zAS {k t:T} {n:ByteArray} (h:t.bb):(qw k n t).1.bb:=by
 have hb:=zl5 (k:=k) (u:=52) (tag:=qW) (n:=2) h;unfold qw;rcases zcE (k:=k) (t:=t) (u:=52) (tag:=qW) (n:=2) with ⟨l,hl,hlen⟩|⟨e,hne,hl⟩
 ·obtain ⟨a,b,rfl⟩:=wQ hlen;rw [hl]at hb ⊢;unfold zcq;simp only;split
  ·exact hb b (by simp)
  ·exact zep
 ·rw [hl];exact zep
theorem zmz {tag:ByteArray} {n:Nat} {r:T×Int}:(∃l,qz tag n r=(l,0) /\ l.length=n) \/ (∃e,e≠0 /\ qz tag n r=([],e)):=by
 rcases zb6 (tag:=tag) (n:=n) (r:=r) with ⟨l,_,e,h,_⟩|⟨e',hne,e,_⟩
 ·exact .inl ⟨l,e,h⟩
 ·exact .inr ⟨e',hne,e⟩
section
variable {S:AS} {id:Nat} {c:Cl} {mv:AV}
theorem j3:inI 3:=by unfold inI;omega
theorem zsQ {t:T}:(AV.agg t.cells).cells.all AV.isCell=true:=by
 show t.cells.all AV.isCell=true;rw [zu];rfl
theorem zpm {t:T}:(AV.agg t.cells).cells.length=3:=by
 show t.cells.length=3;rw [zu];rfl
set_option maxHeartbeats 2000000 in
set_option maxRecDepth 100000 in
theorem zEx {t e f:T} (h:yq S id c mv) (hz1:c.done=true -> c.z1=false) (hz2:c.done=true -> c.z2=false) (hn:c.nonce.size <=4611686018427387904) (he:e.bb) (hf:f.bb):
 ∃S',call 250 [.ptr id 0 0,.agg t.cells,.agg e.cells,.agg f.cells] S=some (.sc (.int .i64 (c.ends t e f).2),S') /\ yq S' id (c.ends t e f).1 mv /\ Chg S S' (jH id mv) (jH id mv):=by
 rw [ym zvh (by simp) rfl];have hd:=h.done;unfold Cl.ends;cases hdn:c.done with
 |false=>
  rw [hdn]at hd;exact ⟨S,by simp [wK,za8,hd],h,Chg.refl⟩
 |true=>
  rw [hdn]at hd;have z1:=hz1 hdn;have z2:=hz2 hdn;have ha:=h.ak z1;have hba:=h.base z2;have hno:=h.nonce;have e251:=fun S=>@zph S c.ak f c.nonce hn hf;have ba:=zAS (k:=c.ak) (n:=c.nonce) hf;have e252:=fun S=>@zmn S (qw c.ak c.nonce f).1 (qw c.ak c.nonce f).2 vk 2 2 rfl ba;have hob:=zk9 (tag:=vk) (n:=2) (r:=qw c.ak c.nonce f) ba;unfold vk at e252;rcases zmz (tag:=vk) (n:=2) (r:=qw c.ak c.nonce f) with ⟨l,hl,hlen⟩|⟨er,hne,hl⟩
  ·obtain ⟨f0,f1,rfl⟩:=wQ hlen;rw [hl]at hob;have hl':=hl;unfold vk at hl';rw [hl']at e252;rw [hl];have ff:f1.fits:=T.bb_fits (hob f1 (by simp));rw [if_pos rfl];unfold Cl.endF;simp only;cases hs:f1.same (z8 t) with
   |false=>exact ⟨S,by simp [wK,za8,hd,ha,hno,e251,zy,e252,jg,yV,yW,ff,hs],h,Chg.refl⟩
   |true=>
    have e263:=fun S=>@zq0 S (qu f0 c.base) e 3 j3 (T.bb_fits he);have bu:=zde (k:=qu f0 c.base) (n:=3) he;have e252':=fun S=>@zmn S (jl (qu f0 c.base) 3 e).1 (jl (qu f0 c.base) 3 e).2 kM 3 3 rfl bu;have hob':=zk9 (tag:=kM) (n:=3) (r:=jl (qu f0 c.base) 3 e) bu;have e352:=fun S=>@zFv S f0 c.base;have e64:=fun S=>@s64 S c.nonce hn;unfold kM at e252';rw [if_pos rfl];rcases zmz (tag:=kM) (n:=3) (r:=jl (qu f0 c.base) 3 e) with ⟨l,hl2,hlen⟩|⟨er,hne,hl2⟩
    ·obtain ⟨l0,l1,l2,rfl⟩:=zdA hlen;rw [hl2]at hob';have hl2':=hl2;unfold kM at hl2';rw [hl2']at e252';rw [hl2];have f1':l1.fits:=T.bb_fits (hob' l1 (by simp));have f2':l2.fits:=T.bb_fits (hob' l2 (by simp));unfold Cl.endL;simp only;cases hs1:l1.same (yF c.nonce) with
     |false=>exact ⟨S,by simp [wK,za8,hd,ha,hno,hba,e251,zy,e252,jg,yV,yW,zel,zdW,zdO,ff,hs,e263,e252',e352,e64,f1',f2',hs1],h,Chg.refl⟩
     |true=>
      cases hs2:l2.same (z8 t) with
      |false=>exact ⟨S,by simp [wK,za8,hd,ha,hno,hba,e251,zy,e252,jg,yV,yW,zel,zdW,zdO,ff,hs,e263,e252',e352,e64,f1',f2',hs1,hs2],h,Chg.refl⟩
      |true=>
       have s1:=h.st (col:=16) (sz:=3) (x:=.agg l0.cells) (c':={c with session:=l0,z3:=false}) (mv':=mv) zpm zsQ (by show setCells _ _ l0.cells=_;rw [zu];rfl) (by omega);have h1:=h.set (c':={c with session:=l0,z3:=false}) rfl;have g1:=h.chg (c':={c with session:=l0,z3:=false});generalize S.set id _=S1 at s1 h1 g1;have s2:=h1.st (col:=2) (sz:=1) (x:=.b true) (c':={c with session:=l0,z3:=false,ended:=true}) (mv':=mv) rfl rfl rfl (by omega);have h2:=h1.set (c':={c with session:=l0,z3:=false,ended:=true}) rfl;have g2:=h1.chg (c':={c with session:=l0,z3:=false,ended:=true});generalize S1.set id _=S2 at s2 h2 g2;have s3:=h2.st (col:=0) (sz:=1) (x:=.b false) (c':={c with session:=l0,z3:=false,ended:=true,on:=false}) (mv':=mv) rfl rfl rfl (by omega);have h3:=h2.set (c':={c with session:=l0,z3:=false,ended:=true,on:=false}) rfl;have g3:=h2.chg (c':={c with session:=l0,z3:=false,ended:=true,on:=false});generalize S2.set id _=S3 at s3 h3 g3;refine ⟨S3,by simp [wK,za8,hd,ha,hno,hba,e251,zy,e252,jg,yV,yW,zel,zdW,zdO,ff,hs,e263,e252',e352,e64,f1',f2',hs1,hs2,s1,s2,s3],h3,(g1.trans g2).trans g3⟩
    ·have hl2':=hl2;unfold kM at hl2';rw [hl2']at e252';rw [hl2];have hr:c.endL t ([],er)=(c,er):=by unfold Cl.endL;rfl
     rw [hr];exact ⟨S,by simp [wK,za8,hd,ha,hno,hba,e251,zy,e252,jg,yV,yW,ff,hs,e263,e252',e352,hne],h,Chg.refl⟩
  ·have hl':=hl;unfold vk at hl';rw [hl']at e252;rw [hl];have hr:c.endF t e ([],er)=(c,er):=by unfold Cl.endF;rfl
   rw [if_pos rfl,hr];exact ⟨S,by simp [wK,za8,hd,ha,hno,e251,zy,e252,jg,hne],h,Chg.refl⟩
end
@[simp] theorem Ck.dr7 (c:Ck):c.cells.drop 7=[]:=rfl
structure Ck.sm (c:Ck):Prop where
 client:c.client.size <=1073741824
 nonce:c.nonce.size <=1073741824
 done:kF c.done <=1073741824
 secret:c.secret.bulk <=1073741824
 upto:inI c.upto
mutual
theorem T.bd_mono {r b:Nat} (hr:r <=b):∀{t:T},t.bd r -> t.bd b
 | .mk _ _ l,h=>⟨by have:=h.1;omega,by have:=h.2.1;omega,zoW hr h.2.2⟩
theorem zoW {r b:Nat} (hr:r <=b):∀{l:List T},bdL r l -> bdL b l
 |[],_=>trivial
 |t::l,h=>⟨T.bd_mono hr h.1,zoW hr h.2⟩
end
theorem zyR {t:T} (h:t.bulk <=1099511627776):t.bd 140737488355328:=T.bd_mono (r:=48 * 1099511627776) (by omega) (T.bd_bulk h)
section
variable {S:AS}
theorem zpM {key:T} {c:Ck}:(yC key c).kind=if key.fit && c.secret.fit then 4 else 0:=by
 unfold yC;split<;>rfl
end
def T.lo (t:T):Prop:=t.bulk <=1099511627776
theorem T.lo.bb {t:T} (h:t.lo):t.bb:=zyR h
theorem T.lo.kid {t u:T} (h:t.lo) (hu:u∈t.kids):u.lo:=by have:=T.bulk_kid hu;unfold T.lo at *;omega
theorem qc:tZ.lo:=by show (T.mk 0 ⟨#[]⟩ []).bulk <=_;rw [T.bulk,jt];show 0+0+4 <=_;omega
theorem zC2 {k t:T} {n:Int} (h:t.lo):(jl k n t).1.lo:=by
 unfold jl;split
 ·unfold vc;split
  ·rename_i a b heq;split
   ·exact h.kid (by rw [heq];simp)
   ·exact qc
  ·exact qc
 ·exact qc
theorem zpU {tag:ByteArray} {n:Nat} {r:T×Int} (h:r.1.lo):∀u∈(qz tag n r).1,u.lo:=by
 rcases zb6 (tag:=tag) (n:=n) (r:=r) with ⟨l,_,e,_,hm,_⟩|⟨e',_,e,_⟩
 ·rw [e];exact fun u hu=>h.kid (hm u hu)
 ·rw [e];intro u hu;cases hu
theorem znq {k t:T} {u:Int} {tag:ByteArray} {n:Nat} (h:t.lo):∀x∈(qx k u t tag n).1,x.lo:=zpU (zC2 h)
theorem zHG {k t:T} {n:ByteArray} (h:t.lo):(qw k n t).1.lo:=by
 have hb:=znq (k:=k) (u:=52) (tag:=qW) (n:=2) h;unfold qw;rcases zcE (k:=k) (t:=t) (u:=52) (tag:=qW) (n:=2) with ⟨l,hl,hlen⟩|⟨e,hne,hl⟩
 ·obtain ⟨a,b,rfl⟩:=wQ hlen;rw [hl]at hb ⊢;unfold zcq;simp only;split
  ·exact hb b (by simp)
  ·exact qc
 ·rw [hl];exact qc
theorem zm6 {u l:T} (h:l.lo):(jX u l).1.lo:=by
 unfold jX;split
 ·split
  ·rename_i p w heq;have hp:p.lo:=h.kid (by rw [heq];simp);unfold qZ;split
   ·split
    ·rename_i x heq2;split
     ·exact hp.kid (by rw [heq2];simp)
     ·exact qc
    ·exact qc
   ·exact qc
  ·exact qc
 ·exact qc
theorem zAk {x y:T} (hx:x.lo) (hy:y.lo):zbe x y:=fun S=>zvo hx hy
def Cl.does (c:Cl) (o:T) (now:Int) (x:T):Cl×T×T×Int:=
 if yI o=zP then (c,wJ c.ak c.key c.body now,c.key,0)
 else if yI o=zG then (if (za0 c.ak o (yT c.seed c.counter)).2=0 then {c with counter:=c.counter+1} else c,(za0 c.ak o (yT c.seed c.counter)).1,yP c.ak 46,(za0 c.ak o (yT c.seed c.counter)).2)
 else if yI o=zL then (c,zcY c.key c.body o x)
 else (c,tZ,tZ,2)
section
variable {S:AS} {id:Nat} {c:Cl} {mv:AV}
theorem zbu {t:T}:t.cells.length=3:=by rw [zu];rfl
theorem zbI {t:T}:t.cells.all AV.isCell=true:=by rw [zu];rfl
theorem i46:inI 46:=by unfold inI;omega
set_option maxHeartbeats 2000000 in
set_option maxRecDepth 100000 in
theorem zEg {o x:T} {now:Int} (h:yq S id c mv) (hz:c.z1=false) (hc:0 <=c.counter /\ c.counter < 4611686018427387904) (ho:o.lo) (hx:x.lo) (hn:inI now):
 ∃S' p b,call 253 [.ptr id 0 0,.agg o.cells,.sc (.int .i64 now),.agg x.cells] S=some (.tup [.agg p,.agg b,.sc (.int .i64 (c.does o now x).2.2.2)],S') /\ yq S' id (c.does o now x).1 mv /\ Chg S S' (jH id mv) (jH id mv) /\
  (p.length=3 /\ p.all AV.isCell=true) /\ (b.length=3 /\ b.all AV.isCell=true) /\ ((c.does o now x).2.2.2=0 -> p=(c.does o now x).2.1.cells /\ b=(c.does o now x).2.2.1.cells):=by
 rw [ym zBB (by simp) rfl];have e81:=fun S=>@s81 S o;have ha:=h.ak hz;have hb:=h.body hz;have hk:=h.key;unfold Cl.does;by_cases h1:yI o=zP
 ·rw [if_pos h1];have e148:=fun S=>@zvG S c.ak c.key c.body now hn;rw [h1]at e81;unfold zP at e81;exact ⟨S,(wJ c.ak c.key c.body now).cells,c.key.cells,by simp [zbm,zdg,e81,ha,hb,hk,e148],h,Chg.refl,⟨zbu,zbI⟩,⟨zbu,zbI⟩,fun _=>⟨rfl,rfl⟩⟩
 ·rw [if_neg h1];have n1:(yI o=⟨#[99,104,97,108,108,101,110,103,101]⟩)=False:=eq_false h1;by_cases h2:yI o=zG
  ·rw [if_pos h2];have n2:(yI o=⟨#[111,116,112]⟩)=True:=eq_true h2;have ic:inI c.counter:=by unfold inI;omega
   have e278:=fun S=>@zyS S c.seed c.counter ic;have e156:=fun S=>@zwd S c.ak o (yT c.seed c.counter) ho.bb;have e354:=fun S=>@zgx S c.ak 46 i46;have hs:=h.seed;have hcn:=h.counter;generalize za0 c.ak o (yT c.seed c.counter)=r at *;by_cases h0:r.2=0
   ·have w1:IntKind.i64.wrap (c.counter+1)=c.counter+1:=w64 (by omega);have s1:=h.st (col:=26) (sz:=1) (x:=.sc (.int .i64 (c.counter+1))) (c':={c with counter:=c.counter+1}) (mv':=mv) rfl rfl rfl (by omega);have h':=h.set (c':={c with counter:=c.counter+1}) rfl;have g':=h.chg (c':={c with counter:=c.counter+1});generalize S.set id _=S1 at s1 h' g';have ha':=h'.ak hz;simp only at ha';refine ⟨S1,r.1.cells,(yP c.ak 46).cells,?_,by rw [if_pos h0];exact h',g',⟨zbu,zbI⟩,⟨zbu,zbI⟩,fun _=>⟨rfl,rfl⟩⟩;simp [zbm,zdg,e81,n1,n2,ha,hs,hcn,e278,e156,zy,h0,w1,s1,ha',e354]
   ·refine ⟨S,r.1.cells,(yP c.ak 46).cells,?_,by rw [if_neg h0];exact h,Chg.refl,⟨zbu,zbI⟩,⟨zbu,zbI⟩,fun _=>⟨rfl,rfl⟩⟩;simp [zbm,zdg,e81,n1,n2,ha,hs,hcn,e278,e156,zy,h0,e354]
  ·rw [if_neg h2];have n2:(yI o=⟨#[111,116,112]⟩)=False:=eq_false h2;by_cases h3:yI o=zL
   ·rw [if_pos h3];have n3:(yI o=⟨#[115,112,97,107,101]⟩)=True:=eq_true h3;have e154:=fun S=>@zvT S c.key c.body o x ho.bb (fun l y hl hy=>zAk hx (by
     have hlm:=(qy (n:=1) hl).2 l (by simp);have:=zm6 (u:=c.key) (ho.kid hlm);rw [hy]at this;exact this))
    generalize zcY c.key c.body o x=r at *;refine ⟨S,r.1.cells,r.2.1.cells,?_,h,Chg.refl,⟨zbu,zbI⟩,⟨zbu,zbI⟩,fun _=>⟨rfl,rfl⟩⟩;simp [zbm,zdg,e81,n1,n2,n3,hb,hk,e154,zeo]
   ·rw [if_neg h3];have n3:(yI o=⟨#[115,112,97,107,101]⟩)=False:=eq_false h3;refine ⟨S,[.i 0,.s ⟨#[]⟩,.lst 0 true []],[.i 0,.s ⟨#[]⟩,.lst 0 true []],?_,h,Chg.refl,⟨rfl,rfl⟩,⟨rfl,rfl⟩,fun h0=>by cases h0⟩;simp [zbm,zdg,e81,n1,n2,n3]
end
section
variable {S:AS}
@[simp] theorem zKp {a:T}:call 437 [.agg a.cells] S=some (.agg (tWd a).cells,S):=by
 rw [zh zEV rfl (by simp) rfl];simp [ziA,zqx,tWd]
theorem ztz {x u:T}:call 370 [.agg x.cells,.agg u.cells] S=some (.agg (ye x u).cells,S):=by
 rw [zh zvM rfl (by simp) rfl];simp [zi6,zov,ye]
theorem zBd {s w o a b:T} {n:Int} (hn:inI n) (h0:n≠ -9223372036854775808):call 438 [.agg s.cells,.agg w.cells,.agg o.cells,.agg a.cells,.agg b.cells,.sc (.int .i64 n)] S=some (.agg (kY s w o a b n).cells,S):=by
 rw [zh zye rfl (by simp) rfl];have e1:∀(S:AS),call 385 [.lst 3 true [s.cells,w.cells,o.cells,a.cells,b.cells]] S=some (.agg (zO [s,w,o,a,b]).cells,S):=fun S=>zqE (l:=[s,w,o,a,b]) (by simp) (by simp);have e2:=fun S k=>@zgt S k n hn h0;simp [zgk,zrp,e1,e2,kY,zw]
theorem zpF {sh u o a b:T} {n:Int} (hn:inI n) (h0:n≠ -9223372036854775808):call 371 [.agg sh.cells,.agg u.cells,.agg o.cells,.agg a.cells,.agg b.cells,.sc (.int .i64 n)] S=some (.agg (kY sh (tWd u) o a (z8 b) n).cells,S):=by
 rw [zh zzD rfl (by simp) rfl];have e2:=fun S=>@zBd S sh (tWd u) o a (z8 b) n hn h0;simp [zgG,zuo,e2]
theorem zEP {a b:T} (ha:a.lo) (hb:b.lo):call 372 [.agg a.cells,.agg b.cells] S=some (.agg (qH a b).cells,S):=by
 rw [zh zuA rfl (by simp) rfl];have e1:=fun S=>@zcy S b hb;have e2:=fun S=>@zcy S a ha;unfold qH;cases hs:sLt b.txt a.txt with
 |true=>simp [ze5,zkq,e1,e2,hs,T.cells,yr,zw]
 |false=>simp [ze5,zkq,e1,e2,hs,T.cells,yr,zw]
theorem zvO {k:T}:call 373 [.agg k.cells] S=some (.agg (yG k 60 (zj zch [])).cells,S):=by
 rw [zh zyA rfl (by simp) rfl];have e2:=fun S t=>@zjF S k t 60 i60 (by omega);simp [zjG,zuh,e2];rfl
theorem zAy {u t:T} (ht:t.bb):call 369 [.agg t.cells,.agg u.cells] S=some (zy (jX u t),S):=by
 rw [zh zvu rfl (by simp) rfl];by_cases h10:t.kind=10
 ·by_cases h2:t.kids.length=2
  ·obtain ⟨p,w,hpw⟩:=wQ h2;have fw:w.fits:=T.bb_fits (ziu ht (by rw [hpw];simp));have hr:jX u t=qZ u w p:=by unfold jX;rw [if_pos h10,hpw]
   rw [hr];by_cases h8:p.kind=8
   ·by_cases h1:p.kids.length=1
    ·obtain ⟨x,hx⟩:=zjI h1;have hr:qZ u w p=if w.same (tWd u) then (x,0) else (tZ,6):=by unfold qZ;rw [if_pos h8,hx]
     rw [hr];cases hs:w.same (tWd u) with
     |true=>simp [zaf,zcM,h10,hpw,yV,yW,h8,hx,zaS,fw,hs,zy]
     |false=>simp [zaf,zcM,h10,hpw,yV,yW,h8,hx,zaS,fw,hs,zy,ve];rfl
    ·have hr:qZ u w p=(tZ,2):=by
      unfold qZ;rw [if_pos h8];split
      ·rename_i heq;rw [heq]at h1;simp at h1
      ·rfl
     rw [hr];have h1':¬(p.kids.length:Int)=1:=by omega
     simp [zaf,zcM,h10,hpw,yV,yW,h8,h1',zy,ve];rfl
   ·have hr:qZ u w p=(tZ,2):=by unfold qZ;rw [if_neg h8]
    rw [hr];simp [zaf,zcM,h10,hpw,yV,yW,h8,zy,ve];rfl
  ·have hr:jX u t=(tZ,2):=by
    unfold jX;rw [if_pos h10];split
    ·rename_i heq;rw [heq]at h2;simp at h2
    ·rfl
   rw [hr];have h2':¬(t.kids.length:Int)=2:=by omega
   simp [zaf,zcM,h10,h2',zy,ve];rfl
 ·have hr:jX u t=(tZ,2):=by unfold jX;rw [if_neg h10]
  rw [hr];simp [zaf,zcM,h10,zy,ve];rfl
theorem zw2 {n:T}:call 283 [.agg n.cells] S=some (.agg (wH n).cells,S):=by
 rw [zh zFt rfl (by simp) rfl];simp [f283,zta,zw];rfl
theorem zHN {u y:T}:call 331 [.agg u.cells,.agg y.cells] S=some (.agg (wS u y).cells,S):=by
 rw [zh zBQ rfl (by simp) rfl];have e:=fun S=>@ztz S y u;simp [zih,zno,e,zw];rfl
theorem zGl {u b y p:T} (hp:p.lo) (hy:y.lo):call 344 [.agg u.cells,.agg b.cells,.agg y.cells,.agg p.cells] S=some (zy (zbj u b y p),S):=by
 rw [zh zDM rfl (by simp) rfl];have e0:=fun S=>@s79 S zL 2 p (by omega);unfold zbj;cases hu:yw zL 2 p with
 |none=>
  rw [hu]at e0;unfold zL at e0;simp [zcI,zeL,e0,zN,zy,ve];rfl
 |some l=>
  rw [hu]at e0;obtain ⟨h2,hm⟩:=qy (n:=2) hu;obtain ⟨l,f,rfl⟩:=wQ h2;unfold zL at e0;have ll:l.lo:=hp.kid (hm l (by simp));have lf:f.lo:=hp.kid (hm f (by simp));have e1:=fun S=>@zAy S u l ll.bb;have lx:=zm6 (u:=u) ll;have e2:=fun S=>@ztz S y u;show _=some (zy (zfK u b y l f (jX u l)),S);unfold zfK;generalize jX u l=r at *;by_cases h0:r.2=0
  ·rw [if_pos h0];have e3:=fun S=>@zEP S r.1 y lx hy;have e4:=fun S=>@zpF S (qH r.1 y) u (ye y u) l b 1 i1 (by omega);have e4':=fun S=>@zpF S (qH r.1 y) u (ye y u) l b 0 i0 (by omega);have e5:=fun S k=>@zvO S k;have ff:f.fits:=T.bb_fits lf.bb;have hx1:yG (kY (qH r.1 y) (tWd u) (ye y u) l (z8 b) 1) 60 (zj zch [])=vL r.1 y u (ye y u) l b:=rfl;have hx0:kY (qH r.1 y) (tWd u) (ye y u) l (z8 b) 0=vw r.1 y u (ye y u) l b 0:=rfl;cases hs:f.same (vL r.1 y u (ye y u) l b) with
   |true=>simp [zcI,zeL,e0,zN,yV,yW,e1,zy,h0,e2,e3,e4,e4',e5,hx1,hx0,ff,hs]
   |false=>simp [zcI,zeL,e0,zN,yV,yW,e1,zy,h0,e2,e3,e4,e5,hx1,ff,hs,ve];rfl
  ·rw [if_neg h0];simp [zcI,zeL,e0,zN,yV,yW,e1,zy,h0,ve];rfl
end
section
variable {S:AS}
set_option maxHeartbeats 1000000 in
theorem ztK {key:T} {c:Ck} {x:AV} (hx:kG S x c.done) (hb:key.bulk <=1099511627776) (hs:c.secret.bulk <=1099511627776) (hc:c.ok):call 111 [.agg key.cells,.agg (ckX c x)] S=some (.agg (yC key c).cells,S):=by
 rw [wR zyv (args':=[.agg key.cells,.agg (ckX c x.nrm)]) (by simp) (by simp) rfl];have hy:=hx.nrm;have hyn:=hx.nn;generalize x.nrm=y at hy hyn;have hyr:=hy.reg;have hyc:=zBZ c y (hy.cell hyn);have hyc':=hy.cell hyn;have hyl:=hy.len;rw [hyn]at hyl;have e1:=fun S=>@zg8 S key hb;have e2:=fun S=>@zg8 S c.secret hs;unfold yC;cases hk:key.fit with
 |false=>
  rw [hk]at e1;cases hs:c.secret.fit with
  |false=>rw [hs]at e2;simp [zcx,zey,hyc,e1,e2,qM,T.cells,yr,lstN]
  |true=>rw [hs]at e2;simp [zcx,zey,hyc,e1,e2,qM,T.cells,yr,lstN]
 |true=>
  rw [hk]at e1;cases hs:c.secret.fit with
  |false=>rw [hs]at e2;simp [zcx,zey,hyc,e1,e2,qM,T.cells,yr,lstN]
  |true=>
   rw [hs]at e2;simp only [zcx];simp [-zg,zey,hyc,hyr,hyl,e1,e2,zw]
   let S0:AS:=⟨S.heap,S.n,S.n⟩
   refine jY (α:=Nat) (R:=fun _ r=>zW S r=some (.agg (jm key (zO (jC c))).cells,S)) (fun i e rg S'=>i <=c.done.length /\ e 2=.reg 2 0 /\ rg 2=some key.cells /\ e 3=.reg 3 0 /\ rg 3=some (ckX c y) /\ e 4=.reg 4 0 /\ rg 4=some [.i 0,.s ⟨#[]⟩,.lst 0 true []] /\ e 8=.sc (.int .i64 (i:Nat)) /\ Own S0 S' 3 (e 7) ((y0 (c.done.take i)).map T.cells)) (fun i=>c.done.length - i) ?_ 0 _ _ _ ?_;rotate_left
   ·refine ⟨by omega,by simp,by simp,by simp,by simp,by simp,by simp,by simp,?_⟩;simp [y0];exact zsV (Nat.le_refl _)
   intro kk hkk i e rg S' ⟨hi,h2,g2,h3,g3,h4,g4,h8,hO⟩ ih;have h100:(⟨#[100]⟩:ByteArray).size=1:=rfl;have h99:(⟨#[99]⟩:ByteArray).size=1:=rfl;have h110:(⟨#[110]⟩:ByteArray).size=1:=rfl;have h117:(⟨#[117]⟩:ByteArray).size=1:=rfl;have hdl:=hc.done;by_cases hlt:i < c.done.length
   ·obtain ⟨s,hs⟩:=jK hlt;obtain ⟨pt,hpt,hpr,hld⟩:=hy.at hs;rw [hyn]at hpt;have hld:=hld S' (fun id hid=>hO.old.heap id hid);have w2:IntKind.i64.wrap ((i:Int)+1)=((i+1:Nat):Int):=w64 (by omega);have hss:=hc.names s (List.mem_of_getElem? hs);have p:pev (.bin .add) [.s ⟨#[100]⟩,.sc (.string s)]=some (.sc (.string (⟨#[100]⟩++s))):=yS (by omega);have hil:(c.done.take i).length=i:=by rw [List.length_take];omega
    obtain ⟨v',S'',ha,hO',q1,q2,q3⟩:=hO.push (n:=i) (bytes:=48) (r:=(zJ (⟨#[100]⟩++s)).cells) (f:=true) (d:=some 39) (rg:=rg) (by rw [List.length_map,znc,hil]) (by omega);have h7r:=hO.reg;rw [<- zCL hs]at hO';simp [-zg,zlL,h3,g3,h8,hlt,hyr,hyl,hpt,hpr,hld,p,h7r,zw];rw [ha];simp [-zg,q1,w2,h8];refine ih (i+1) _ _ _ (by omega) (fun _ h=>h) ?_;exact ⟨by omega,by simp [h2],g2,by simp [h3],g3,by simp [h4],g4,by simp,by simpa using hO'⟩
   ·have hi':i=c.done.length:=by omega
    subst hi';rw [List.take_length]at hO;have hf:=hO.frzT (b:=S.n) (d:=1) (Nat.le_refl _);have h7r:=hO.reg;have h7c:=hO.cell;have h7s:=hO.cells;have hit:=wI (n:=c.upto) (by have:=hc.upto;unfold inI at this;omega) (by have:=hc.upto;unfold inI at this;omega);have e213:=fun S=>@zpw S c.upto hc.upto;have p1:pev (.bin .add) [.s ⟨#[117]⟩,.sc (.string (zq c.upto))]=some (.sc (.string (⟨#[117]⟩++zq c.upto))):=yS (by omega);have p2:pev (.bin .add) [.s ⟨#[99]⟩,.sc (.string c.client)]=some (.sc (.string (⟨#[99]⟩++c.client))):=yS (by have:=hc.client;omega);have p3:pev (.bin .add) [.s ⟨#[110]⟩,.sc (.string c.nonce)]=some (.sc (.string (⟨#[110]⟩++c.nonce))):=yS (by have:=hc.nonce;omega);simp [-zg,zlL,h3,g3,h8,hyr,hyl];rw [hkk];generalize hv7:e 7=v7 at *;simp [-zg,h2,g2,h3,g3,h4,g4,hv7,hyr,h7r,h7c,h7s,e213,p1,p2,p3,zw];simp [hf];rw [show zf (y0 c.done)=lstN 3 (yr (y0 c.done)) by rw [kJ];rfl];simp only [jm,zO,jC,T.cells,yr,zJ]
    try rfl
theorem q69 {x:AV} {l:List ByteArray} (hx:kG S x l) (hs:∀s∈l,s.size <=4611686018427387904) (hl:l.length * 48 <=140737488355328):call 69 [x] S=some (.agg (zO (jU l)).cells,S):=by
 have hr:=hx.reg;rw [wR a69 (args':=[x.nrm]) (by simp [hr]) (by simp) rfl];have hy:=hx.nrm;have hyn:=hx.nn;generalize x.nrm=y at hy hyn;have hyr:=hy.reg;have hyl:=hy.len;rw [hyn]at hyl;simp only [f69];simp [-zg,zqY,hyr];rw [show (some (AV.agg (zO (jU l)).cells,S):Option (AV×AS))=zW S (some (AV.agg (zO (jU l)).cells,S)) by simp]
 let S0:AS:=⟨S.heap,S.n,S.n⟩
 refine jY (α:=Nat) (R:=fun _ r=>zW S r=zW S (some (.agg (zO (jU l)).cells,S))) (fun i e rg S'=>i <=l.length /\ e 0=y /\ e 2=.reg 2 0 /\ rg 2=some zT /\ e 3=.reg 3 0 /\ e 4=.sc (.int .i64 (i:Nat)) /\ ∃v,rg 3=some [.sc (.int .i64 3),.sc (.string ⟨#[]⟩),v] /\ Own S0 S' 3 v ((jU (l.take i)).map T.cells)) (fun i=>l.length - i) ?_ 0 _ _ _ ?_;rotate_left
 ·refine ⟨by omega,by simp,by simp,by simp [zT],by simp,by simp,.lst 0 true [],by simp,?_⟩;exact zhX (Nat.le_refl _)
 intro kk hkk i e rg S' ⟨hi,h0,h2,h22,h3,h4,v,h33,hO⟩ ih;by_cases hc:i < l.length
 ·obtain ⟨t,ht⟩:=jK hc;obtain ⟨pt,hpt,hpr,hld⟩:=hy.at ht;rw [hyn]at hpt;have hld:=hld S' (fun id hid=>hO.old.heap id hid);have hts:=hs t (List.mem_of_getElem? ht);obtain ⟨v',S'',ha,hO',q1,q2,q3⟩:=hO.push (n:=i) (bytes:=48) (r:=(yF t).cells) (f:=true) (d:=some 20) (rg:=rg) (by simp [jU];omega) (by omega);have w2:IntKind.i64.wrap ((i:Int)+1)=((i+1:Nat):Int):=w64 (by omega);simp [-zg,zmF,h0,h3,h4,h33,hc,hyr,hyl,hpt,hpr,hld,s65 t hts,ha,w2,q1,q2,q3,zw];refine ih (i+1) _ _ _ (by omega) (fun _ h=>h) ?_;refine ⟨by omega,by simp [h0],by simp [h2],by simp [h22],by simp [h3],by simp,v',by simp,?_⟩;have:(jU (l.take (i+1))).map T.cells=(jU (l.take i)).map T.cells++[(yF t).cells]:=by
   unfold jU;rw [List.take_add_one,ht];simp
  rw [this];exact hO'
 ·have hi':i=l.length:=by omega
  subst hi';rw [List.take_length]at hO;simp [-zg,zmF,h0,h4,hyr,hyl];rw [hkk];have hcell:=hO.cell;have hf:=hO.frzT (b:=S.n) (d:=1) (Nat.le_refl _);simp [h2,h22,h3,h33,hcell,hf,zT];rw [zu];rfl
def qP (a b:List ByteArray):Bool:=decide (a.length < b.length) && decide (b.take a.length=a)
theorem zIG {a b:List ByteArray} {i:Nat} {x y:ByteArray} (hx:a[i]?=some x) (hy:b[i]?=some y) (h:x≠y):qP a b=false:=by
 unfold qP;have:b.take a.length≠a:=fun e=>by
  have hi:i < a.length:=(List.getElem?_eq_some_iff.1 hx).1;rw [<- e,List.getElem?_take,if_pos hi,hy]at hx;cases hx;exact h rfl
 simp [this]
theorem zCt {a b:List ByteArray} (hl:a.length < b.length) (h:∀(i:Nat) (x:ByteArray),a[i]?=some x -> b[i]?=some x):qP a b=true:=by
 unfold qP;have:b.take a.length=a:=by
  apply List.ext_getElem?;intro i;rw [List.getElem?_take];split
  ·rename_i hi;have:=h i a[i] (by simp [hi]);rw [this];simp [hi]
  ·rename_i hi;rw [List.getElem?_eq_none (by omega)]
 simp [hl,this]
theorem zD2 {a b:List ByteArray} (hb:b.length <=4611686018427387904):call 340 [zB a,zB b] S=some (.sc (.bool (qP a b)),S):=by
 rw [zh zAe rfl (by simp) rfl];simp only [zhJ];by_cases hab:b.length <=a.length
 ·have:qP a b=false:=by unfold qP;simp;omega
  simp [zkj,hab,this]
 ·simp [-zg,zkj,hab];refine jY (α:=Nat) (R:=fun _ r=>zW S r=some (.sc (.bool (qP a b)),S)) (fun i e rg S'=>i <=a.length /\ S'={S with ro:=S.n} /\ e 0=zB a /\ e 1=zB b /\ e 5=.sc (.int .i64 (i:Nat)) /\ ∀(j:Nat) (x:ByteArray),j < i -> a[j]?=some x -> b[j]?=some x) (fun i=>a.length - i) ?_ 0 _ _ _ ?_;rotate_left
  ·exact ⟨by omega,rfl,by simp,by simp,by simp,by intro j x hj;omega⟩
  intro kk hkk i e rg S' ⟨hi,hS',h0,h1,h5,hall⟩ ih;subst hS';by_cases hc:i < a.length
  ·obtain ⟨x,hx⟩:=jK hc;obtain ⟨y,hy⟩:=jK (l:=b) (i:=i) (by omega);have w2:IntKind.i64.wrap ((i:Int)+1)=((i+1:Nat):Int):=w64 (by omega);by_cases hxy:x=y
   ·simp [-zg,zjq,h0,h1,h5,hc,zaV hx,zaV hy,hxy,w2];refine ih (i+1) _ _ _ (by omega) (fun _ h=>h) ⟨by omega,rfl,by simp [h0],by simp [h1],by simp,?_⟩;intro j z hj hz;by_cases hji:j=i
    ·subst hji;rw [hx]at hz;cases hz;rw [hy,hxy]
    ·exact hall j z (by omega) hz
   ·simp [-zg,zjq,h0,h1,h5,hc,zaV hx,zaV hy,hxy];rw [hkk];simp [zIG hx hy hxy]
  ·have hi':i=a.length:=by omega
   subst hi';simp [-zg,zjq,h0,h5];rw [hkk];simp [zCt (by omega:a.length < b.length) fun j x hj=>hall j x (List.getElem?_eq_some_iff.1 hj).1 hj]
end
end Abs
