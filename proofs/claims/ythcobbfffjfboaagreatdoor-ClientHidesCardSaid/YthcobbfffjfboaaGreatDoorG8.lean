/- A conversation: how it begins, and its steps. -/
import Derived.Test.YthcobbfffjfboaaGreatDoorG7
import Derived.Test.YthcobbfffjfboaaGreatDoorG4
set_option linter.unusedVariables false
set_option linter.unusedSimpArgs false
set_option linter.unusedSectionVars false
namespace Abs
open Go
def Sti (set:List ByteArray) (i:Nat) (c:Cl) (K:Kd) (m:T) (t0:Int):Prop:=
 (i=0 /\ ∃nx rest,Ini c K m nx rest /\ set=nx::rest) \/ (∃done nx rest,Mid c K m done nx rest t0 /\ set=done++nx::rest /\ i=done.length+1)
structure Rnd (c:Cl) (K:Kd) (m:T) (now:Int) (x:T):Prop where
 mlo:m.lo
 rlo:(K.req m now).1.lo
 e:(c.take (K.req m now).1 now x).2.2=0
section
variable {set:List ByteArray} {i:Nat} {c:Cl} {K:Kd} {m x:T} {t0 now:Int}
theorem Sti.step (h:Sti set i c K m t0) (hi:i < set.length) (hn:t0 <=now /\ now <=t0+5) (h0:0 <=now /\ now <=10000000) (gk:c.key=K.u.key) (gs:c.seed=K.u.seed) (hK:0 <=K.n /\ K.n <=900000) (hx:atT x):
 Rnd c K m now x /\ (K.req m now).2.2=none /\ Sti set (i+1) (c.take (K.req m now).1 now x).1 (K.req m now).2.1 (c.take (K.req m now).1 now x).2.1 now /\
  (c.take (K.req m now).1 now x).1.key=(K.req m now).2.1.u.key /\ (c.take (K.req m now).1 now x).1.seed=(K.req m now).2.1.u.seed /\ (c.take (K.req m now).1 now x).1.nonce=c.nonce:=by
 have hg:∀d,gud c K d:=fun d=>by unfold gud;split<;>assumption
 rcases h with ⟨rfl,nx,rest,hI,hs⟩|⟨done,nx,rest,hM,hs,hd⟩
 ·obtain ⟨h1,h2,h3,_⟩:=hI.step (x:=x) hK hx h0;obtain ⟨h4,h5,h6,h7⟩:=h3 fun _=>gk.symm;refine ⟨⟨hI.lo,h1,h4⟩,h2,.inr ⟨[],nx,rest,h7,hs,rfl⟩,?_,?_,by rw [h5];rfl⟩
  ·rw [h5,h6,(@zdM K nx).2.2.1];exact gk
  ·rw [h5,h6,(@zdM K nx).2.2.1];exact gs
 ·match rest,hM,hs with
  |[],hM,hs=>rw [hs]at hi;simp at hi;omega
  |nx2::rest,hM,hs=>
   obtain ⟨_,_,_,_,_,_,hlo,_⟩:=hM.seen (now:=now) (by omega);obtain ⟨h1,h2,h3,_⟩:=hM.step (x:=x) hn (hg nx) hK hx h0.2;obtain ⟨h4,h5,_,h10,h6,h7,h8,h9⟩:=h3 fun _=>gk.symm;refine ⟨⟨hlo,h1,h4⟩,h2,.inr ⟨done++[nx],nx2,rest,h5,by rw [hs];simp,by rw [hd];simp⟩,?_,?_,h10⟩
   ·rw [h7,h8];exact gk
   ·rw [h6,h9];exact gs
theorem Sti.last (h:Sti set i c K m t0) (hi:i=set.length) (hn:t0 <=now /\ now <=t0+5) (gk:c.key=K.u.key) (gs:c.seed=K.u.seed) (hK:0 <=K.n /\ K.n <=900000):
 Rnd c K m now x /\ (K.req m now).2.2=some (c.name,c.nonce,set,zD (K.n+1)) /\ c.take (K.req m now).1 now x=({c with session:=zD (K.n+1),ended:=true,on:=false,z3:=false},zi,0) /\ c.marks=set.map (fun d=>(d,c.nonce)) /\ zfw c set:=by
 have hg:∀d,gud c K d:=fun d=>by unfold gud;split<;>assumption
 rcases h with ⟨rfl,nx,rest,hI,hs⟩|⟨done,nx,rest,hM,hs,hd⟩
 ·rw [hs]at hi;simp at hi
 ·match rest,hM,hs with
  |nx2::rest,hM,hs=>rw [hs,hd]at hi;simp at hi
  |[],hM,hs=>
   obtain ⟨_,_,_,_,_,_,hlo,_⟩:=hM.seen (now:=now) (by omega);obtain ⟨h1,h2,h3⟩:=hM.last (x:=x) hn (hg nx) hK;rw [hs];exact ⟨⟨hlo,h1,by rw [h3]⟩,h2,h3,hM.ms,hM.ct⟩
end
structure KD (K:Kd) (set:List ByteArray):Prop where
 key:K.key=ze qt
 cookies:K.cookies=ze zaI
 u:K.u=us0 set
 room:K.room=16
 cache:K.cache=[]
theorem zjN {set:List ByteArray}:KD (kd0 set) set:=⟨rfl,rfl,rfl,rfl,rfl⟩
theorem wt {n:ByteArray} (h:n≠⟨#[]⟩) (hn:n.size <=1000):Ti (ze n) 1 1004:=zsC h hn
theorem zlH {p n:ByteArray} (h:p≠⟨#[]⟩) (hp:p.size <=1000) (hn:n.size <=1000):Ti (y5 (ze p) n) 6 4000:=
 (vA (n:=zba++n) (m:=1005) (wt h hp) (kT (by show 5≠0;omega)) (by rw [ByteArray.size_append];have:zba.size=5:=rfl;omega)).up (by omega) (by omega)
theorem zHm {K:Kd} {pw sd nonce sn nx:ByteArray} {rest:List ByteArray} (h:KD K (nx::rest)) (hpw:pw≠⟨#[]⟩ /\ pw.size <=1000) (hsd:sd≠⟨#[]⟩ /\ sd.size <=1000) (hno:nonce≠⟨#[]⟩ /\ nonce.size <=700) (hsn:sn≠⟨#[]⟩ /\ sn.size <=1000)
 (im:∀d∈nx::rest,isM d) (nd:(nx::rest).Nodup) (len:rest.length <=2):
 Ini ((c0 (ze pw) (ze sd)).start nonce (ze sn)) K (((c0 (ze pw) (ze sd)).start nonce (ze sn)).says zi zi) nx rest:=by
 have hu:=h.u;have z1:qQ.size=4:=rfl;have z2:qt.size=3:=rfl;have z3:zaI.size=6:=rfl;have z4:zQ.size=10:=rfl;have z5:naB.size=1:=rfl;have tH:Ti yj 1 1004:=wt (by decide) (by omega);have tS:=wt hsn.1 hsn.2;obtain ⟨j1,j2⟩:=zbz (f:=zd7) (by show 11 <=90;omega);obtain ⟨j3,j4⟩:=zbz (f:=zdT) (by show 11 <=90;omega);have tA:=kI (zac (d:=2) (.cons (vA tS j1 j2) (.cons (vA tH j3 j4) .nil (by omega)) (by omega)));have tB:=jE (n:=zab) (m:=4) (d:=1) (by decide) (Nat.le_refl _) (.cons (zb1 (n:=eqB naB) (m:=1001) ziq (by rw [zez];omega)) (.cons (zb1 (n:=eqB nonce) (m:=1001) ziq (by rw [zez];omega)) .nil (by omega)) (by omega)) (by omega);have hkc:K.cookies.fit=true:=by rw [h.cookies];exact atT.fit ⟨zaI,rfl,by decide,by omega⟩
 have hnd:=List.nodup_cons.1 nd;have in2:inI 2:=by unfold inI;omega
 refine ⟨⟨rfl,?_,rfl,by show naB≠_;decide,hno.1,?_,?_⟩,⟨tA.up (by omega) (by omega),zlH hpw.1 hpw.2 (by omega),tB.up (by omega) (by omega),(wt hsd.1 hsd.2).up (by omega) (by omega),?_,?_,hkc,?_,?_,by show naB.size <=_;omega,by show nonce.size <=_;omega⟩,?_,im,hnd.1,hnd.2,h.room,h.cache,rfl,len,?_,rfl,rfl⟩
 ·rw [h.key];exact zGk
 ·rw [hu];rfl
 ·rw [hu];rfl
 ·rw [hu];exact zlH (by decide) (by omega) (by omega)
 ·have s1:=zdt (k:=ze qt) (t:=zj qQ [yj]) (n:=2) in2;have s2:=zdt (k:=yj) (t:=zj vO [ze sn]) (n:=11) i11;rw [vZ,yz,jt]at s1 s2;have b1:=tH.b;have b2:=tS.b;have b3:(ze qt).bulk=7:=by rw [zdl];rfl
  have b4:yj.bulk=8:=by show (ze qQ).bulk=_;rw [zdl];rfl
  have z6:vO.size=4:=rfl;have z7:zaG.size=5:=rfl;show (zj zaG [yG (ze qt) 2 (zj qQ [yj]),yG yj 11 (zj vO [ze sn])]).bulk <=_;rw [vZ,yz,yz,jt];omega
 ·rw [h.cookies,zdl];omega
 ·rw [h.key,zdl];omega
 ·rw [hu];rfl
 ·rw [hu];rfl
theorem jP.keeps {frame U L:List T} (hL:jP frame U L) {P:T -> Bool} (h1:∀t∈frame,P t=true) (h2:∀Q:List T,(∀t∈Q,P t=true) -> ∀t∈Q,∀u∈yY Q t,P u=true):∀t∈L,P t=true:=by
 have hs:∀t∈L.filter P,t∈L:=fun t ht=>(List.mem_filter.1 ht).1;have hp:∀t∈L.filter P,P t=true:=fun t ht=>(List.mem_filter.1 ht).2;intro t ht;refine hp t (hL.least (L.filter P) (fun u hu=>List.mem_filter.2 ⟨hL.has u hu,h1 u hu⟩) (fun u hu v hv=>List.mem_filter.2 ⟨?_,h2 _ hp u hu v hv⟩) t ht);exact hL.closed u (hs u hu) v (zs8 hs hv)
def zaY (n:ByteArray):Bool:=n.data[0]?==some 111
mutual
def knT (A:ByteArray -> Bool):T -> Bool
 | .mk k n l=>if k=1 then true else if k=2 then A n else if k=4 then knE A l else if k=10 then knM A l else if k=7 then (zaY n ||knL A l) else if k=9 then knS A l else knL A l
def knL (A:ByteArray -> Bool):List T -> Bool
 |[]=>true
 |t::l=>knT A t && knL A l
def knE (A:ByteArray -> Bool):List T -> Bool
 |[]=>true
 |k::r=>!(knT A k) ||knL A r
def knS (A:ByteArray -> Bool):List T -> Bool
 |a::b::_=>knT A a && knT A b
 |_=>true
def knM (A:ByteArray -> Bool):List T -> Bool
 |[]=>true
 |a::r=>!(knL A r) ||knT A a
end
section
variable {A:ByteArray -> Bool}
theorem zhI:∀{l:List T},knL A l=l.all (knT A)
 |[]=>by rw [knL];rfl
 |t::l=>by rw [knL,zhI];rfl
theorem v8 {k:Int} {n:ByteArray} {l:List T}:knT A (.mk k n l)=if k=1 then true else if k=2 then A n else if k=4 then knE A l else if k=10 then knM A l else if k=7 then (zaY n ||knL A l) else if k=9 then knS A l else knL A l:=by rw [knT]
theorem zAz {l:List T} (h:knL A l=true):knE A l=true:=by
 cases l with
 |nil=>rw [knE]
 |cons k r=>rw [knL]at h;rw [knE];simp at h ⊢;exact .inr h.2
theorem zIU {l:List T} (h:knL A l=true):knM A l=true:=by
 cases l with
 |nil=>rw [knM]
 |cons k r=>rw [knL]at h;rw [knM];simp at h ⊢;exact .inr h.1
mutual
theorem zcN {Q:List T} (hQ:∀t∈Q,knT A t=true):∀t,mkP Q t=true -> knT A t=true
 | .mk k n l=>fun h=>by
   rw [mkP,Bool.or_eq_true]at h;rcases h with h|h
   ·rw [zme]at h;exact hQ _ (of_decide_eq_true h)
   ·rw [v8];by_cases h1:k=1
    ·rw [if_pos h1]
    ·rw [if_neg h1]at h ⊢;by_cases h2:k=2
     ·rw [if_pos h2]at h;cases h
     ·rw [if_neg h2]at h ⊢;by_cases h9:k=9
      ·rw [if_pos h9]at h;have hl:=zwp hQ l h;rw [if_neg (by omega),if_neg (by omega),if_neg (by omega),if_pos h9];exact hl
      ·rw [if_neg h9]at h;have hl:=zlc hQ l h;split
       ·exact zAz hl
       ·split
        ·exact zIU hl
        ·split
         ·rw [hl];simp
         ·first|exact hl|(rw [if_neg h9];exact hl)
theorem zlc {Q:List T} (hQ:∀t∈Q,knT A t=true):∀l,yE Q l=true -> knL A l=true
 |[]=>fun _=>by rw [knL]
 |t::l=>fun h=>by
  rw [yE,Bool.and_eq_true]at h;rw [knL,zcN hQ t h.1,zlc hQ l h.2];rfl
theorem zwp {Q:List T} (hQ:∀t∈Q,knT A t=true):∀l,shP Q l=true -> knS A l=true
 |[]=>fun _=>by unfold knS;rfl
 |[_]=>fun _=>by unfold knS;rfl
 |a::b::l=>fun h=>by
  have pb:∀x,inL Q (zZ x)=true -> knT A x=true:=fun x hx=>by
   rw [zme]at hx;have:=hQ _ (of_decide_eq_true hx);unfold zZ at this;rw [v8]at this;simpa [knL] using this
  rw [shP]at h;have ka:=zcN hQ a;have kb:=zcN hQ b;rw [knS];simp only [Bool.or_eq_true,Bool.and_eq_true]at h;rcases h with ⟨h1,h2|h2⟩|⟨h1,h2|h2⟩
  ·rw [ka h1,pb b h2];rfl
  ·rw [ka h1,kb h2];rfl
  ·rw [kb h1,pb a h2];rfl
  ·rw [kb h1,ka h2];rfl
end
theorem zxP {Q:List T} (hQ:∀t∈Q,knT A t=true):∀t∈Q,∀u∈yY Q t,knT A u=true:=by
 intro t ht u hu;have hk:=hQ t ht;obtain ⟨k,n,l⟩:=t;unfold yY vg at hu;have ek:(T.mk k n l).kind=k:=rfl;have el:(T.mk k n l).kids=l:=rfl;rw [ek,el]at hu;rw [v8]at hk;by_cases h3:k=3
 ·subst h3;simp only [if_true,yE]at hu;simp only [show ¬(3:Int)=1 by decide,show ¬(3:Int)=2 by decide,show ¬(3:Int)=4 by decide,show ¬(3:Int)=10 by decide,show ¬(3:Int)=7 by decide,show ¬(3:Int)=9 by decide,if_false]at hk;rw [zhI,List.all_eq_true]at hk;exact hk u hu
 ·rw [if_neg h3]at hu;by_cases h4:k=4
  ·subst h4;simp only [if_true]at hu;simp only [show ¬(4:Int)=1 by decide,show ¬(4:Int)=2 by decide,if_false,if_true]at hk;split at hu
   ·rename_i hm;cases l with
    |nil=>cases hu
    |cons a r=>
     simp only [List.take_succ_cons,List.take_zero,List.drop_succ_cons,List.drop_zero,yE,Bool.and_true]at hm hu;rw [knE,zcN hQ a hm,zhI]at hk;simp at hk;exact hk u hu
   ·cases hu
  ·rw [if_neg h4]at hu;by_cases h10:k=10
   ·subst h10;simp only [if_true]at hu;simp only [show ¬(10:Int)=1 by decide,show ¬(10:Int)=2 by decide,show ¬(10:Int)=4 by decide,if_false,if_true]at hk;split at hu
    ·rename_i hm;cases l with
     |nil=>cases hu
     |cons a r=>
      simp only [List.take_succ_cons,List.take_zero,List.drop_succ_cons,List.drop_zero]at hm hu;rw [knM,zlc hQ r hm]at hk;simp at hk;rw [List.mem_singleton.1 hu];exact hk
    ·cases hu
   ·rw [if_neg h10]at hu;cases hu
mutual
def prT (A:ByteArray -> Bool):T -> Bool
 | .mk k n l=>if k=1 then true else if k=2 then A n else if k=3 then prL A l else if k=4 then prE A l else false
def prL (A:ByteArray -> Bool):List T -> Bool
 |[]=>true
 |t::l=>prT A t && prL A l
def prE (A:ByteArray -> Bool):List T -> Bool
 |[]=>true
 |k::_=>!(knT A k)
end
theorem zlm:∀{l:List T},prL A l=l.all (prT A)
 |[]=>by rw [prL];rfl
 |t::l=>by rw [prL,zlm];rfl
theorem zbA {k:Int} {n:ByteArray} {l:List T}:prT A (.mk k n l)=if k=1 then true else if k=2 then A n else if k=3 then prL A l else if k=4 then prE A l else false:=by rw [prT]
mutual
theorem zfO:∀t,prT A t=true -> knT A t=true
 | .mk k n l=>fun h=>by
   rw [zbA]at h;rw [v8];by_cases h1:k=1
   ·rw [if_pos h1]
   ·rw [if_neg h1]at h ⊢;by_cases h2:k=2
    ·rw [if_pos h2]at h ⊢;exact h
    ·rw [if_neg h2]at h ⊢;by_cases h3:k=3
     ·rw [if_pos h3]at h;rw [if_neg (by omega),if_neg (by omega),if_neg (by omega),if_neg (by omega)];exact zqc l h
     ·rw [if_neg h3]at h;by_cases h4:k=4
      ·rw [if_pos h4]at h ⊢;cases l with
       |nil=>rw [knE]
       |cons a r=>rw [prE]at h;rw [knE,h];rfl
      ·rw [if_neg h4]at h;cases h
theorem zqc:∀l,prL A l=true -> knL A l=true
 |[]=>fun _=>by rw [knL]
 |t::l=>fun h=>by
  rw [prL,Bool.and_eq_true]at h;rw [knL,zfO t h.1,zqc l h.2];rfl
end
theorem zAq {Q:List T} (hQ:∀t∈Q,prT A t=true):∀t∈Q,∀u∈yY Q t,prT A u=true:=by
 intro t ht u hu;have hk:=hQ t ht;obtain ⟨k,n,l⟩:=t;unfold yY vg at hu;have ek:(T.mk k n l).kind=k:=rfl;have el:(T.mk k n l).kids=l:=rfl;rw [ek,el]at hu;rw [zbA]at hk;by_cases h3:k=3
 ·subst h3;simp only [if_true,yE]at hu;simp only [show ¬(3:Int)=1 by decide,show ¬(3:Int)=2 by decide,if_false,if_true]at hk;rw [zlm,List.all_eq_true]at hk;exact hk u hu
 ·rw [if_neg h3]at hu;by_cases h4:k=4
  ·subst h4;simp only [if_true]at hu;simp only [show ¬(4:Int)=1 by decide,show ¬(4:Int)=2 by decide,show ¬(4:Int)=3 by decide,if_false,if_true]at hk;split at hu
   ·rename_i hm;cases l with
    |nil=>cases hu
    |cons a r=>
     simp only [List.take_succ_cons,List.take_zero,List.drop_succ_cons,List.drop_zero,yE,Bool.and_true]at hm hu;rw [prE,zcN (fun t ht=>zfO t (hQ t ht)) a hm]at hk;cases hk
   ·cases hu
  ·rw [if_neg h4]at hu;by_cases h10:k=10
   ·subst h10;simp at hk
   ·rw [if_neg h10]at hu;cases hu
theorem zxW {L1 L2:List T} (h2:∀t∈L2,prT A t=true):∀t∈L2,jN L1 L2 L1 t=false:=by
 intro t ht;have hk:=h2 t ht;obtain ⟨k,n,l⟩:=t;rw [zbA]at hk;unfold jN;have ek:(T.mk k n l).kind=k:=rfl;have el:(T.mk k n l).kids=l:=rfl;rw [ek,el];by_cases h4:k=4
 ·subst h4;simp only [show ¬(4:Int)=1 by decide,show ¬(4:Int)=2 by decide,show ¬(4:Int)=3 by decide,if_false,if_true]at hk;rw [if_pos rfl];cases l with
  |nil=>simp [gnL]
  |cons a r=>
   rw [prE]at hk;have:mkP L2 a=false:=by
    rw [Bool.eq_false_iff];intro e;rw [zcN (fun t ht=>zfO t (h2 t ht)) a e]at hk;cases hk
   exact zvF this
 ·rw [if_neg h4]at hk ⊢;by_cases h3:k=3
  ·subst h3;rfl
  ·by_cases h1:k=1
   ·subst h1;rfl
   ·by_cases h2':k=2
    ·subst h2';rfl
    ·rw [if_neg h1,if_neg h2',if_neg h3]at hk;cases hk
end
section
variable {A:ByteArray -> Bool} {frame U L L1 L2:List T} {s:T}
theorem jP.kn (h:jP frame U L) (hf:∀t∈frame,knT A t=true) (hs:knT A s=false):mkP L s=false:=by
 rw [Bool.eq_false_iff];intro e;have:=zcN (h.keeps hf fun Q hQ=>zxP hQ) s e;rw [hs]at this;cases this
theorem zv6 {B:ByteArray -> Bool} (h1:jP frame U L1) (h2:jP (frame++[s]) U L2) (hb:∀t∈frame,knT B t=true) (hs:knT B s=false) (hf:∀t∈frame,prT A t=true) (ha:prT A s=true):ze1 L1 L2 s=false:=by
 unfold ze1;rw [h1.kn hb hs,Bool.false_or,List.any_eq_false];intro t ht;rw [Bool.not_eq_true];refine zxW (h2.keeps (P:=prT A) (fun u hu=>?_) fun Q hQ=>zAq hQ) t ht;rcases List.mem_append.1 hu with hu|hu
 ·exact hf u hu
 ·rw [List.mem_singleton.1 hu];exact ha
end
def jn:ByteArray:=⟨#[115,117,98]⟩
def xxB:ByteArray:=⟨#[120]⟩
def n1B:ByteArray:=⟨#[110]⟩
theorem zv4 {pw sd:T}:(c0 pw sd).sz 10:=⟨fun e=>(by cases e),fun e=>(by cases e),fun e=>(by cases e),fun e=>(by cases e),by show 0 <=_;omega,by show 1 <=_;omega,by show (0:Int) <=2 /\ (2:Int) <=10;omega,by show 0 <=_;omega⟩
theorem zoL {n:ByteArray} (h:n.size <=1000000):(ze n).lo:=by show (ze n).bulk <=_;rw [zdl];omega
theorem zHn {j:Nat}:(kd0 (yk j)).sz 10:=by
 obtain ⟨h1,h2,h3,h4⟩:=@zeu j;refine ⟨zoL (by show 6 <=_;omega),h1,by show (yk j).length <=1000;omega,fun s hs=>?_,by show 1 <=_;omega,by show (0:Int) <=10;omega,by show (0:Int) <=0 /\ (0:Int) <=10;omega,by show (0:Int) <=0 /\ (0:Int) <=10;omega,by show 0 <=10;omega⟩;rcases h3 s hs with rfl|rfl|rfl
 ·show 9 <=_;omega
 ·show 3 <=_;omega
 ·show 5 <=_;omega
section
variable {S:AS}
theorem zyq {S1 S2:AS} {a:Nat} {c:Cl} {k:Nat} {L:Loc} {j:Nat} {o:Nat -> Prop} (hcl:yq S1 a c (.lst 0 true [])) (hkd:yA S2 k L (kd0 (yk j)) []) (g1:Chg S S1 (fun _=>False) o) (ho:∀x,jH a (.lst 0 true []) x -> o x) (g2:Chg S1 S2 (fun _=>False) (yK k L)) (hc:c.sz 10):
 Pr S2 a c (.lst 0 true []) k L (kd0 (yk j)) [] 10 /\ Chg S S2 (fun _=>False) (Pr.own a (.lst 0 true []) k L):=by
 have hcl2:yq S2 a c (.lst 0 true []):=hcl.keep g2.1 g2.2.1 fun x hx _=>(g2.2.2 x hx fun e=>e).1;refine ⟨⟨hcl2,hkd,fun x hx hk=>(g2.2.2 x (hcl.own_lt hx) fun e=>e).2 hk,hc,zHn,by simp⟩,g2.1.trans g1.1,Nat.le_trans g1.2.1 g2.2.1,fun x hx _=>⟨?_,?_⟩⟩
 ·exact (g2.2.2 x (Nat.lt_of_lt_of_le hx g1.2.1) fun e=>e).1.trans (g1.2.2 x hx fun e=>e).1
 ·rintro (e|e)
  ·exact (g1.2.2 x hx fun e=>e).2 (ho x e)
  ·exact (g2.2.2 x (Nat.lt_of_lt_of_le hx g1.2.1) fun e=>e).2 e
theorem beg (hS:S.ro <=S.n) {j:Nat}:∃S1 S2 b k L,call 132 [] S=some (.tup [.ptr S.n 0 0,.ptr b 0 0],S1) /\ call 133 [zB (yk j)] S1=some (.ptr k 0 0,S2) /\
 Pr S2 S.n (c0 (ze zQ) (ze yB)) (.lst 0 true []) k L (kd0 (yk j)) [] 10 /\ Chg S S2 (fun _=>False) (Pr.own S.n (.lst 0 true []) k L):=by
 obtain ⟨S1,b,d1,h1,hb,hb1,hb2,g1⟩:=zBY (S:=S) hS;have hS1:S1.ro <=S1.n:=by have:=g1.1;have:=g1.2.1;omega
 obtain ⟨S2,k,L,d2,h2,g2⟩:=zuM (S:=S1) (j:=j) hS1;obtain ⟨p,g⟩:=zyq h1 h2 g1 (fun x hx=>by rcases hx with rfl|⟨a,b,c,d,e⟩;exact .inl rfl;cases e) g2 zv4;exact ⟨S1,S2,b,k,L,d1,d2,p,g⟩
theorem Pr.start {a:Nat} {c:Cl} {mv:AV} {k:Nat} {L:Loc} {K:Kd} {R:List (List AV)} {b:Nat} (h:Pr S a c mv k L K R b) {nonce:ByteArray} {sub:T} (hn:nonce.size <=1099511627776):
 ∃S',call 138 [.ptr a 0 0,.sc (.string nonce),.agg sub.cells] S=some (.agg ((c.start nonce sub).says zi zi).cells,S') /\ Pr S' a (c.start nonce sub) mv k L K R b /\ Chg S S' (Pr.own a mv k L) (Pr.own a mv k L):=by
 obtain ⟨S',d,h',g⟩:=zAo (nonce:=nonce) (sub:=sub) h.cl (by omega) (by have:=h.cs.name;omega);obtain ⟨p,g'⟩:=h.client h' g (Nat.le_refl b) (h.cs.start hn);exact ⟨S',d,p,g'⟩
theorem zdY:atT (ze xxB):=⟨xxB,rfl,by decide,by show 1 <=_;omega⟩
theorem ze4:(ze xxB).lo:=zoL (by show 1 <=_;omega)
theorem zc6:zQ≠⟨#[]⟩ /\ zQ.size <=1000:=⟨by decide,by show 10 <=_;omega⟩
theorem zg1:yB≠⟨#[]⟩ /\ yB.size <=1000:=⟨by decide,by show 6 <=_;omega⟩
theorem zkN:jn≠⟨#[]⟩ /\ jn.size <=1000:=⟨by decide,by show 3 <=_;omega⟩
theorem zt8:n1B≠⟨#[]⟩ /\ n1B.size <=700:=⟨by decide,by show 1 <=_;omega⟩
theorem zFo {j:Nat}:(yk j).Nodup:=by
 have n1:zP≠zG:=by decide
 have n2:zP≠zL:=by decide
 have n3:zG≠zL:=by decide
 match j with
 |0|1|2=>simp [yk]
 |3=>simp [yk,n1]
 |4=>simp [yk,n3]
 |5=>simp [yk,n2.symm]
 |6=>simp [yk,n1,n2,n3]
 |_+7=>simp [yk,n3.symm,n2.symm,n1.symm]
theorem zyr (j:Nat):∃nx rest,yk j=nx::rest:=by
 match h:yk j with
 |[]=>have:=(@zeu j).1;rw [h]at this;simp at this
 |nx::rest=>exact ⟨nx,rest,rfl⟩
theorem zkH {K:Kd} {j:Nat} {pw sd nonce sn:ByteArray} {t0:Int} (h:KD K (yk j)) (hpw:pw≠⟨#[]⟩ /\ pw.size <=1000) (hsd:sd≠⟨#[]⟩ /\ sd.size <=1000) (hno:nonce≠⟨#[]⟩ /\ nonce.size <=700) (hsn:sn≠⟨#[]⟩ /\ sn.size <=1000):
 Sti (yk j) 0 ((c0 (ze pw) (ze sd)).start nonce (ze sn)) K (((c0 (ze pw) (ze sd)).start nonce (ze sn)).says zi zi) t0:=by
 obtain ⟨nx,rest,hs⟩:=zyr j;obtain ⟨h1,h2,h3,h4⟩:=@zeu j;have hnd:=@zFo j;rw [hs]at h h2 h3 hnd ⊢;exact .inl ⟨rfl,nx,rest,zHm h hpw hsd hno hsn h3 hnd (by simp at h2;omega),rfl⟩
theorem Pr.good {a:Nat} {c:Cl} {mv:AV} {k:Nat} {L:Loc} {K:Kd} {R:List (List AV)} {b i:Nat} {set:List ByteArray} {m:T} {t0 now:Int} (h:Pr S a c mv k L K R b) (hb:b <=800) (hs:Sti set i c K m t0) (hi:i < set.length) (hn:t0 <=now /\ now <=t0+5) (h0:0 <=now /\ now <=10000000) (gk:c.key=K.u.key) (gs:c.seed=K.u.seed):
 ∃S1 S2 r c' m' mv' L' K',call 137 [.ptr k 0 0,.agg m.cells,.sc (.int .i64 now)] S=some (.agg r,S1) /\ call 141 [.ptr a 0 0,.agg r,.sc (.int .i64 now),.agg (ze xxB).cells] S1=some (.tup [.agg (T.cells m'),.sc (.int .i64 0)],S2) /\
  Pr S2 a c' mv' k L' K' R (b+4) /\ Sti set (i+1) c' K' m' now /\ c'.key=K'.u.key /\ c'.seed=K'.u.seed /\ c'.nonce=c.nonce /\ Chg S S2 (Pr.own a mv k L) (Pr.own a mv' k L'):=by
 obtain ⟨rd,hiss,hs',g1,g2,g3⟩:=hs.step (x:=ze xxB) hi hn h0 gk gs (by have:=h.ks.n;omega) zdY;obtain ⟨S1,S2,mv',L',R',d1,d2,p,is,G⟩:=h.round (by omega) rd.mlo (now:=now) (by omega) ze4 rd.rlo;rw [rd.e]at d2;rw [hiss]at is;rw [show R'=R from is]at p;exact ⟨S1,S2,_,_,_,mv',L',_,d1,d2,p,hs',g1,g2,g3,G⟩
theorem Pr.last {a:Nat} {c:Cl} {mv:AV} {k:Nat} {L:Loc} {K:Kd} {R:List (List AV)} {b i:Nat} {set:List ByteArray} {m:T} {t0 now:Int} (h:Pr S a c mv k L K R b) (hb:b <=800) (hs:Sti set i c K m t0) (hi:i=set.length) (hn:t0 <=now /\ now <=t0+5) (h0:0 <=now /\ now <=10000000) (gk:c.key=K.u.key) (gs:c.seed=K.u.seed):
 ∃S1 S2 r c' mv' L' K' dv s,call 137 [.ptr k 0 0,.agg m.cells,.sc (.int .i64 now)] S=some (.agg r,S1) /\ call 141 [.ptr a 0 0,.agg r,.sc (.int .i64 now),.agg (ze xxB).cells] S1=some (.tup [.agg zi.cells,.sc (.int .i64 0)],S2) /\
  Pr S2 a c' mv' k L' K' (R++[qT c.name c.nonce (.arr dv 1 0 set.length none) s]) (b+4) /\ S2.heap dv=some (.rows 1 (zS set)) /\ dv < S2.n /\ c'.ended=true /\ c'.on=false /\ c'.session=s /\ s.fits /\ c'.nonce=c.nonce /\ c'.marks=set.map (fun d=>(d,c.nonce)) /\ zfw c' set /\ Chg S S2 (Pr.own a mv k L) (Pr.own a mv' k L'):=by
 obtain ⟨rd,hiss,ht,hm,hc⟩:=hs.last (x:=ze xxB) hi hn gk gs (by have:=h.ks.n;omega);obtain ⟨S1,S2,mv',L',R',d1,d2,p,is,G⟩:=h.round (by omega) rd.mlo (now:=now) (by omega) ze4 rd.rlo;rw [hiss]at is;obtain ⟨id,e1,e2,e3,e4,e5⟩:=is;rw [e1]at p;rw [ht]at d2 p;exact ⟨S1,S2,_,_,mv',L',_,id,zD (K.n+1),d1,d2,p,e2,e4,rfl,rfl,rfl,T.fits_bulk (zqy (by have:=h.ks.n;omega) (by have:=h.ks.n;omega)),rfl,hm,hc,G⟩
end
section
variable {S:AS}
end
def Cl.drow (c:Cl) (bt:T) (zb:Bool) (st:T) (zs:Bool) (mv:AV):List AV:=
 [.sc (.string c.name),.sc (.int .i64 c.key.kind),.sc (.string c.key.name),zf c.key.kids,.sc (.int .i64 c.seed.kind),.sc (.string c.seed.name),zf c.seed.kids,.sc (.int .i64 c.counter),
  .sc (.int .i64 c.ticket.kind),.sc (.string c.ticket.name),zf c.ticket.kids,.sc (.int .i64 c.host.kind),.sc (.string c.host.name),zf c.host.kids,
  .b c.on,.sc (.string c.nonce),.sc (.int .i64 c.body.kind),.sc (.string c.body.name),zc c.z1 c.body,.sc (.int .i64 c.wrap.kind),.sc (.string c.wrap.name),zc c.z1 c.wrap,.sc (.int .i64 c.ak.kind),.sc (.string c.ak.name),zc c.z1 c.ak,
  .sc (.int .i64 bt.kind),.sc (.string bt.name),zc zb bt,.b c.done,mv,.sc (.int .i64 st.kind),.sc (.string st.name),zc zs st,.b c.ended]
structure Dz where
 bt:T:=tZ
 zb:Bool:=true
 st:T:=tZ
 zs:Bool:=true
 mv:AV:=.lst 0 true []
abbrev Dz.row (z:Dz) (c:Cl):List AV:=c.drow z.bt z.zb z.st z.zs z.mv
structure ztd (S:AS) (id:Nat) (c:Cl) (z:Dz):Prop where
 hh:S.heap id=some (.rows 34 [z.row c])
 gv:GV S 2 z.mv (Cl.mrow c.marks)
 ro:S.ro <=id
 lt:id < S.n
 ne:¬jf z.mv id
 hb:c.done=true -> z.zb=false /\ z.bt=c.base
 hs:c.ended=true -> z.zs=false /\ z.st=c.session
 zbk:z.zb=true -> z.bt=tZ
section
variable {S:AS} {id:Nat} {c:Cl} {z:Dz}
section
variable (h:ztd S id c z)
include h
end
end
theorem set2 {S:AS} {id:Nat} {x y:Option jb}:(S.set id x).set id y=S.set id y:=by
 unfold AS.set;simp only [AS.mk.injEq,and_true];funext j;split<;>rfl
section
variable {S:AS} {id:Nat} {c:Cl} {z:Dz}
end
theorem p2: -4611686018427387904 <=(2:Int) /\ (2:Int) <=4611686018427387904:=by omega
theorem p3: -4611686018427387904 <=(3:Int) /\ (3:Int) <=4611686018427387904:=by omega
section
variable {S:AS} {id:Nat} {c:Cl} {z:Dz}
structure Tl (S S2 S3 S4 S5:AS) (id:Nat) (c:Cl) (z:Dz) (nm:ByteArray) (b:T) (mv':AV):Prop where
 s1:∀d rg,za (.st none 3) d rg S [.ptr id 0 25,.agg b.cells]=some (.junk,none,S2)
 s2:∀d rg,za (.st none 1) d rg S2 [.ptr id 0 28,.b true]=some (.junk,none,S3)
 mkk:∀d rg,za (.ld none 1 false) d rg S3 [.ptr id 0 29]=some (z.mv,none,S3)
 no:∀d rg,za (.ld none 1 false) d rg S3 [.ptr id 0 15]=some (.sc (.string c.nonce),none,S3)
 mr:z.mv.isReg=false
 ap:∀d rg,za (.append 2 32) d rg S3 [z.mv,.lst 2 true [[.sc (.string nm),.sc (.string c.nonce)]]]=some (mv',none,S4)
 mr':mv'.isReg=false
 s3:∀d rg,za (.st none 1) d rg S4 [.ptr id 0 29,mv']=some (.junk,none,S5)
 h5:ztd S5 id {c with base:=b,z2:=false,done:=true,marks:=c.marks++[(nm,c.nonce)]} {z with bt:=b,zb:=false,mv:=mv'}
 g5:Chg S S5 (jH id z.mv) (jH id mv')
 say:∀p k:T,call 330 [.ptr id 0 0,.agg p.cells,.agg k.cells] S5=some (.agg (c.says p k).cells,S5)
end
section
variable {S:AS} {id:Nat} {c:Cl} {z:Dz}
end
section
variable {N:Nat} (h4:4 <=N)
include h4
end
structure Bs (c:Cl):Prop where
 a:c.ak.bulk <=4000
 k:c.key.bulk <=4000
 b:c.body.bulk <=4000
 d:c.seed.bulk <=4000
 w:c.wrap.bulk <=4000
 m:c.nonce.size <=1000
section
variable {c:Cl} {o x k p:T} {now:Int}
end
structure Bk (K:Kd):Prop where
 kb:K.key.bulk <=4000
 ck:K.cookies.bulk <=4000
 u:K.u.key.bulk <=4000
 set:∀s∈K.u.set,isM s
 len:K.u.set.length <=3
structure Bx (N:Nat) (now:Int) (x:Tlk):Prop where
 a:x.ak.bulk <=8300
 b:x.body.bulk <=4000
 s:x.c.secret.bulk <=N
 m:x.c.nonce.size <=4000
 n:x.c.client.size <=4000
 u:x.u.key.bulk <=4000
 set:∀s∈x.u.set,isM s
 now:x.now=now
 done:∀d∈x.c.done,isM d
 len:x.c.done.length <=4
section
variable {N M:Nat} {K:Kd} {x:Tlk} {now:Int} {nx:ByteArray} {base:T}
end
section
variable {S:AS} {k:Nat} {L:Loc} {K:Kd} {R:List (List AV)} {id:Nat} {c:Cl} {mv:AV} {z:Dz}
end
structure Sv where
 m:T
 zm:Bool
 r:T
 zr:Bool
 o:T
 zo:Bool
 now:Int
 n:Int
def Sv.row (x:Sv) (a b k:Nat):List AV:=[.ptr a 0 0,.ptr b 0 0,.ptr k 0 0,.sc (.int .i64 x.m.kind),.sc (.string x.m.name),zc x.zm x.m,
 .sc (.int .i64 x.r.kind),.sc (.string x.r.name),zc x.zr x.r,.sc (.int .i64 x.o.kind),.sc (.string x.o.name),zc x.zo x.o,.sc (.int .i64 x.now),.sc (.int .i64 x.n)]
structure zzs (S:AS) (s a b k:Nat) (x:Sv):Prop where
 hh:S.heap s=some (.rows 14 [x.row a b k])
 ro:S.ro <=s
 lt:s < S.n
section
variable {S:AS} {s a b k:Nat} {x:Sv}
section
variable (h:zzs S s a b k x) (d:Option Nat) (rg:Nat -> Option (List AV))
include h
end
end
section
variable {S:AS} {s a b k id:Nat} {x:Sv} {c:Cl} {z:Dz}
end
section
variable {S:AS} {s a b k id:Nat} {x:Sv} {c:Cl} {z:Dz}
end
structure Csm (c c':Cl):Prop where
 ak:c'.ak=c.ak
 key:c'.key=c.key
 body:c'.body=c.body
 wrap:c'.wrap=c.wrap
 seed:c'.seed=c.seed
 nonce:c'.nonce=c.nonce
 name:c'.name=c.name
 ticket:c'.ticket=c.ticket
 host:c'.host=c.host
 z1:c'.z1=c.z1
theorem Csm.says {c c':Cl} (h:Csm c c') {p k:T}:c'.says p k=c.says p k:=by unfold Cl.says;rw [h.body,h.wrap,h.ak]
structure Bt (c:Cl):Prop where
 t:c.ticket.bulk <=1000
 h:c.host.bulk <=1000
 n:c.name.size <=500
def xT:T:=ze xxB
def Sk (N:Int) (s:T):Prop:=s=zi \/ ∃j,1 <=j /\ j <=N /\ s=zD j
inductive Hrd (c:Cl) (K:Kd) (N:Int):T -> Prop
 |none:Hrd c K N zi
 |first:Hrd c K N (c.says zi zi)
 |says {nx s done}:isM nx -> Sk N s -> (nx≠zP -> s≠zi) -> (∀d∈done,isM d) -> done.length <=3 -> Hrd c K N (c.says (prf c nx s xT 0) (yC K.cookies ⟨c.name,c.nonce,done,s,100⟩))
 |offer {nx s done}:isM nx -> Sk N s -> (nx≠zP -> s≠zi) -> (∀d∈done,isM d) -> done.length <=3 -> Hrd c K N (jo c.ak c.nonce (zj jJ [yO K.u nx s,yC K.cookies ⟨c.name,c.nonce,done,s,100⟩]))
def ja (c:Cl) (K:Kd) (N:Int) (base:T) (set:List ByteArray):T:=kz c.ak c.nonce base (zD (N+1)) (zD (N+1+1)) (tkt K.key c.name (zD (N+1)) set 0)
structure Fqx (c:Cl) (K:Kd):Prop where
 ak:c.ak=wo (ze jn) yj
 wrap:c.wrap=wh kx yj (ze jn)
 body:c.body=km naB c.nonce
 name:c.name=naB
 key:c.key=y5 (ze zQ) naB
 seed:c.seed=ze yB
 kkey:K.key=ze qt
 cookies:K.cookies=ze zaI
 ukey:K.u.key=y5 (ze zQ) naB
theorem zHL {j:Int}:zD j≠zi:=fun e=>by
 have:=congrArg T.kind e;exact absurd this (by show ¬(2:Int)=3;decide)
theorem Sk.mono {N M:Int} {s:T} (h:Sk N s) (hM:N <=M):Sk M s:=by
 rcases h with h|⟨j,h1,h2,h3⟩
 ·exact .inl h
 ·exact .inr ⟨j,h1,by omega,h3⟩
theorem zAK {c c':Cl} (h:Csm c c') {nx:ByteArray} {s x:T} {t:Int}:prf c' nx s x t=prf c nx s x t:=by
 unfold prf;rw [h.ak,h.key,h.body,h.seed]
theorem Hrd.mono {c:Cl} {K:Kd} {N M:Int} {t:T} (h:Hrd c K N t) (hM:N <=M):Hrd c K M t:=by
 cases h with
 |none=>exact .none
 |first=>exact .first
 |says h1 h2 h3 h4 h5=>exact .says h1 (h2.mono hM) h3 h4 h5
 |offer h1 h2 h3 h4 h5=>exact .offer h1 (h2.mono hM) h3 h4 h5
section
variable {A:ByteArray -> Bool}
theorem zl6 {n:ByteArray}:knT A (zJ n)=true:=by unfold zJ;rw [v8,if_pos rfl]
theorem zdV {n:ByteArray}:knT A (yF n)=true:=by unfold yF;rw [v8,if_pos rfl]
theorem zkg {n:Int}:knT A (qb n)=true:=zdV
theorem jT {n:ByteArray}:knT A (ze n)=A n:=by unfold ze;rw [v8];rfl
theorem zcG {l:List T}:knT A (zO l)=l.all (knT A):=by unfold zO;rw [v8,<- zhI];rfl
theorem vB {n:ByteArray} {l:List T}:knT A (zj n l)=l.all (knT A):=by unfold zj;rw [zcG,List.all_cons,zl6,Bool.true_and]
theorem zsZ {k t:T}:knT A (jm k t)=(!knT A k ||knT A t):=by unfold jm;rw [v8];simp [knE,knL]
theorem zee {t:T}:knT A (z8 t)=knT A t:=by unfold z8;rw [v8];simp [knL]
theorem ztm {t:T}:knT A (zZ t)=knT A t:=by unfold zZ;rw [v8];simp [knL]
theorem zp2 {a k:T}:knT A (ww a k)=(!knT A k ||knT A a):=by unfold ww;rw [v8];simp [knM,knL]
theorem zfa {a:T} {n:ByteArray}:knT A (jr a n)=(zaY n ||knT A a):=by unfold jr;rw [v8];simp [knL]
theorem zh1 {a:UInt8} {l:List UInt8} {n:ByteArray}:zaY ((⟨(a::l).toArray⟩:ByteArray)++n)=(a==111):=by
 unfold zaY;rw [show ((⟨(a::l).toArray⟩:ByteArray)++n).data=(a::l).toArray++n.data from ByteArray.data_append];rw [Array.getElem?_append_left (by simp)];simp
theorem zlT {k:T} {n:Int}:knT A (yP k n)=knT A k:=by
 unfold yP;rw [zfa,show zaY (⟨#[117,115,101,32]⟩++zq n)=false from zh1 (l:=[115,101,32]),Bool.false_or]
theorem zHf {k:T} {n:Int}:knT A (yT k n)=true:=by
 unfold yT;rw [zfa,show zaY (⟨#[111,116,112,32]⟩++zq n)=true from zh1 (l:=[116,112,32]),Bool.true_or]
theorem zcs {k t:T} {n:Int}:knT A (yG k n t)=(!knT A k ||knT A t):=by unfold yG;rw [zsZ,zlT]
theorem zmB {a b:T} {f g:ByteArray}:knT A (qq a b f g)=(knT A a && knT A b):=by
 unfold qq;have h:∀f:ByteArray,zaY (⟨#[106,111,105,110,32]⟩++f)=false:=fun f=>zh1 (l:=[111,105,110,32]);rw [zee,zcG];simp [zfa,h]
theorem zzf {k:T}:knT A (tWd k)=knT A k:=by unfold tWd;rw [zfa];rfl
theorem zrY {p:T} {n:ByteArray}:knT A (y5 p n)=knT A p:=by
 unfold y5 zba;rw [zfa,show zaY (⟨#[108,111,110,103,32]⟩++n)=false from zh1 (l:=[111,110,103,32]),Bool.false_or]
theorem zim:knT A zi=true:=by unfold zi;rw [vB];rfl
theorem zjK {a b:ByteArray}:knT A (km a b)=true:=by unfold km;rw [vB];simp [zdV]
theorem zGZ {l:List ByteArray}:(y0 l).all (knT A)=true:=by
 rw [List.all_eq_true];intro t ht;unfold y0 at ht;obtain ⟨s,_,rfl⟩:=List.mem_map.1 ht;exact zl6
theorem zrz {l:List ByteArray}:(jU l).all (knT A)=true:=by
 rw [List.all_eq_true];intro t ht;obtain ⟨s,_,rfl⟩:=List.mem_map.1 ht;exact zdV
structure Big (A:ByteArray -> Bool) (N:Int):Prop where
 sub:A jn=true
 host:A qQ=true
 x:A xxB=true
 dr:∀j,1 <=j -> j <=N -> A (kdB++zq j)=true
theorem Sk.kn {N:Int} {s:T} (h:Sk N s) (hA:Big A N):knT A s=true:=by
 rcases h with rfl|⟨j,h1,h2,rfl⟩
 ·exact zim
 ·unfold zD;rw [jT];exact hA.dr j h1 h2
theorem zvb {K:T} {c:Ck} (hs:knT A c.secret=true) (hf:K.fit=true) (hf':c.secret.fit=true):knT A (yC K c)=true:=by
 unfold yC;rw [hf,hf'];simp only [Bool.and_self,if_true];rw [zsZ,zcG];simp [jC,zl6,hs,zcG,zGZ]
theorem zsU {c:Cl} {K:Kd} {N:Int} {p q:T} (hA:Big A N) (hF:Fqx c K) (hp:knT A p=true) (hq:knT A q=true):knT A (c.says p q)=true:=by
 unfold Cl.says vT;rw [vB,hF.body,hF.wrap];simp only [List.all_cons,List.all_nil,Bool.and_true,zjK,Bool.true_and];unfold wh kx zbs qV yj;simp [zcs,vB,jT,hA.sub,hA.host,zee,zjK,hp,hq]
theorem zBq {c:Cl} {K:Kd} {N:Int} {nx:ByteArray} {s:T} (hA:Big A N) (hF:Fqx c K) (hn:isM nx) (hs:Sk N s):knT A (prf c nx s xT 0)=true:=by
 have hk:=hs.kn hA;rcases hn with rfl|rfl|rfl
 ·rw [zcv];unfold wJ zax;rw [hF.body];simp [vB,zcs,zkg,zee,zjK]
 ·rw [zcb];unfold zas;simp [vB,zcs,hk,zHf]
 ·rw [zc1];unfold vL ye xT;simp [vB,zcs,zp2,ztm,jT,hA.x]
theorem Sk.fit {N:Int} {s:T} (h:Sk N s) (hN:N <=1000):s.fit=true:=by
 rcases h with rfl|⟨j,h1,h2,rfl⟩
 ·exact ztB
 ·exact (wG (by omega)).fit
theorem zFH:(ze zaI).fit=true:=atT.fit ⟨zaI,rfl,by decide,by show 6 <=_;omega⟩
theorem Hrd.kn {c:Cl} {K:Kd} {N:Int} {t:T} (h:Hrd c K N t) (hA:Big A N) (hF:Fqx c K) (hN:N <=1000):knT A t=true:=by
 have hck:∀{s:T} {done:List ByteArray},Sk N s -> knT A (yC K.cookies ⟨c.name,c.nonce,done,s,100⟩)=true:=fun hs=>zvb (hs.kn hA) (by rw [hF.cookies];exact zFH) (hs.fit hN);cases h with
 |none=>exact zim
 |first=>exact zsU hA hF zim zim
 |says h1 h2 _ h3 h4=>exact zsU hA hF (zBq hA hF h1 h2) (hck h2)
 |@offer nx s done h1 h2 _ h3 h4=>
  have ho:knT A (yO K.u nx s)=true:=by
   unfold yO;split
   ·rw [vB];rfl
   ·split
    ·unfold wS ye;rw [vB];simp [zp2,ztm,h2.kn hA]
    ·unfold wH;rw [vB];simp [h2.kn hA]
  unfold jo;rw [zcs,vB];simp [zdV,vB,ho,hck h2]
theorem zF5 {c:Cl} {K:Kd} {N:Int} {base:T} {set:List ByteArray} (hA:Big A (N+1+1)) (h1:0 <=N):knT A (ja c K N base set)=true:=by
 have d1:=hA.dr (N+1) (by omega) (by omega);have d2:=hA.dr (N+1+1) (by omega) (by omega);unfold ja kz vU tkt jo zD;simp [vB,zcs,jT,d1,d2,zdV,zee,zkg,zcG,zrz]
theorem zBo {c:Cl} {K:Kd} {N:Int} {base:T} {set:List ByteArray} (hk:knT A K.key=false) (hb:knT A base=false) (hd:A (kdB++zq (N+1+1))=true):knT A (ja c K N base set)=true:=by
 unfold ja kz vU tkt jo zD qu;simp [vB,zcs,jT,hd,hk,hb,zdV,zee,zkg,zcG,zrz,zmB]
structure Sml (A:ByteArray -> Bool) (c:Cl) (K:Kd):Prop where
 sub:A jn=false
 host:A qQ=false
 kdc:A qt=false
theorem zCx {n:ByteArray}:prT A (zJ n)=true:=by unfold zJ;rw [zbA,if_pos rfl]
theorem zIL {n:ByteArray}:prT A (yF n)=true:=by unfold yF;rw [zbA,if_pos rfl]
theorem zw7 {n:ByteArray}:prT A (ze n)=A n:=by unfold ze;rw [zbA];rfl
theorem zhG {n:ByteArray} {l:List T}:prT A (zj n l)=l.all (prT A):=by
 unfold zj zO;rw [zbA,<- Bool.true_and (l.all _),<- @zCx A n,<- List.all_cons,<- zlm];rfl
theorem zmV {k t:T} {n:Int} (h:knT A k=false):prT A (yG k n t)=true:=by
 unfold yG jm;rw [zbA];simp [prE,zlT,h]
theorem Sml.ak {c:Cl} {K:Kd} (h:Sml A c K) (hF:Fqx c K):knT A c.ak=false:=by
 rw [hF.ak];unfold wo yj;rw [zmB,jT,h.sub];rfl
theorem Hrd.pr {c:Cl} {K:Kd} {N:Int} {t:T} (h:Hrd c K N t) (hA:Sml A c K) (hF:Fqx c K):prT A t=true:=by
 have hs:∀p q,prT A (c.says p q)=true:=fun p q=>by
  unfold Cl.says vT;rw [zhG,hF.body,hF.wrap];unfold km wh kx zbs qV yj;simp [zhG,zIL,zmV,hA.ak hF,jT,hA.kdc,hA.host]
 cases h with
 |none=>unfold zi;rw [zhG];rfl
 |first=>exact hs _ _
 |says=>exact hs _ _
 |offer=>exact zmV (hA.ak hF)
theorem zut {c:Cl} {K:Kd} {N:Int} {base:T} {set:List ByteArray} (hA:Sml A c K) (hF:Fqx c K) (hd:A (kdB++zq (N+1+1))=false):prT A (ja c K N base set)=true:=by
 unfold ja kz vU tkt jo qu zD;simp [zhG,zmV,hA.ak hF,hF.kkey,jT,hA.kdc,zmB,hd]
end
section
variable {L:List T}
theorem zBR {l:List T} (h:yE L l=true):mkP L (zO l)=true:=by unfold zO;rw [mkP];simp [h]
theorem ziL {a:T} {n:ByteArray} (h:mkP L a=true):mkP L (jr a n)=true:=by unfold jr;rw [mkP];simp [h,yE]
theorem zx2 {a:T} (h:mkP L a=true):mkP L (z8 a)=true:=by unfold z8;rw [mkP];simp [h,yE]
theorem zpP {a b:T} {f g:ByteArray} (h:mkP L a=true) (h':mkP L b=true):mkP L (qq a b f g)=true:=by
 unfold qq;exact zx2 (zBR (by simp [yE,ziL h,ziL h']))
theorem jP.pack {frame U:List T} (h:jP frame U L) {n:ByteArray} {l:List T} (ht:zj n l∈L):∀u∈l,u∈L:=fun u hu=>
 h.closed _ ht u (by unfold zj;rw [zGp];exact List.mem_cons_of_mem _ hu)
theorem jP.open' {frame U:List T} (h:jP frame U L) {k t:T} {n:Int} (ht:yG k n t∈L) (hk:mkP L k=true):t∈L:=by
 refine h.closed _ ht t ?_;have hu:mkP L (yP k n)=true:=ziL hk;have:vg (yG k n t)=some ([yP k n],[t]):=rfl;unfold yY;rw [this];simp [yE,hu]
theorem zIy {frame U:List T} {c:Cl} {K:Kd} {N:Int} {set:List ByteArray} (h:jP frame U L) (hF:Fqx c K) (hh:yj∈frame) (hm:c.says zi zi∈frame) (hl:ja c K N (yP c.ak 46) set∈frame):mkP L (zD (N+1))=true:=by
 have kh:mkP L yj=true:=zhU (h.has _ hh);have m0:=h.has _ hm;unfold Cl.says vT at m0;have mw:c.wrap∈L:=h.pack m0 _ (by simp);rw [hF.wrap]at mw;unfold wh at mw;have ms:yG yj 11 (zj vO [ze jn])∈L:=h.pack mw _ (by simp);have sb:ze jn∈L:=h.pack (h.open' ms kh) _ (by simp);have ka:mkP L c.ak=true:=by rw [hF.ak];exact zpP (zhU sb) kh
 have l0:=h.has _ hl;unfold ja kz at l0;have la:=h.pack l0 (jo c.ak c.nonce (zj vk [zD (N+1+1),z8 (tkt K.key c.name (zD (N+1)) set 0)])) (by simp);unfold jo at la;have l1:=h.pack (h.open' la ka) (zj vk [zD (N+1+1),z8 (tkt K.key c.name (zD (N+1)) set 0)]) (by simp);have st:=h.pack l1 (zD (N+1+1)) (by simp);have le:=h.pack l0 (vU (zD (N+1+1)) (yP c.ak 46) (zD (N+1)) c.nonce (tkt K.key c.name (zD (N+1)) set 0)) (by simp);unfold vU at le;exact zhU (h.pack (h.open' le (zpP (zhU st) (ziL ka))) _ (by simp))
end
end Abs
