/- ClientHides: what is heard is rightly built, and not much. -/
import Derived.Test.YthcobbfffjfboaaGreatDoorG8
import Derived.Test.YthcobbfffjfboaaGreatDoorG7
import Derived.Test.YthcobbfffjfboaaGreatDoorG4
set_option linter.unusedVariables false
set_option linter.unusedSimpArgs false
set_option linter.unusedSectionVars false
namespace Abs
open Go
theorem zdr {n:ByteArray}:(zJ n).subs.length=1:=by unfold zJ;rw [T.subs,yL];rfl
theorem jO {n:ByteArray}:(ze n).subs.length=1:=by unfold ze;rw [T.subs,yL];rfl
theorem zcW {n:ByteArray}:(yF n).subs.length=1:=by unfold yF;rw [T.subs,yL];rfl
theorem znh {n:Int}:(qb n).subs.length=1:=zcW
theorem zbN {l:List T}:(zO l).subs.length=(yL l).length+1:=by unfold zO;rw [T.subs];rfl
theorem jz:(yL []).length=0:=by rw [yL];rfl
theorem yD {t:T} {l:List T}:(yL (t::l)).length=t.subs.length+(yL l).length:=by rw [yL,List.length_append]
theorem kO {n:ByteArray} {l:List T}:(zj n l).subs.length=(yL l).length+2:=by unfold zj;rw [zbN,yD,zdr];omega
theorem zsv {k t:T}:(jm k t).subs.length=k.subs.length+t.subs.length+1:=by unfold jm;rw [T.subs,List.length_cons,yD,yD,jz];omega
theorem zkm {k t:T}:(ww k t).subs.length=k.subs.length+t.subs.length+1:=by unfold ww;rw [T.subs,List.length_cons,yD,yD,jz];omega
theorem zdX {k:T} {n:ByteArray}:(jr k n).subs.length=k.subs.length+1:=by unfold jr;rw [T.subs,List.length_cons,yD,jz]
theorem zdb {k:T}:(z8 k).subs.length=k.subs.length+1:=by unfold z8;rw [T.subs,List.length_cons,yD,jz]
theorem zmC {k:T}:(zZ k).subs.length=k.subs.length+1:=by unfold zZ;rw [T.subs,List.length_cons,yD,jz]
theorem zjh {k:T} {n:Int}:(yP k n).subs.length=k.subs.length+1:=zdX
theorem zj9 {k:T}:(tWd k).subs.length=k.subs.length+1:=zdX
theorem zvL {k:T} {n:Int}:(yT k n).subs.length=k.subs.length+1:=zdX
theorem zit {k:T} {n:ByteArray}:(y5 k n).subs.length=k.subs.length+1:=zdX
theorem zbO {k t:T} {n:Int}:(yG k n t).subs.length=k.subs.length+t.subs.length+2:=by unfold yG;rw [zsv,zjh];omega
theorem zk5 {a b:T} {f g:ByteArray}:(qq a b f g).subs.length=a.subs.length+b.subs.length+4:=by
 unfold qq;rw [zdb,zbN,yD,yD,jz,zdX,zdX];omega
theorem zr6 {a b:T}:(qH a b).subs.length=a.subs.length+b.subs.length+1:=by
 unfold qH;split<;>(rw [T.subs,List.length_cons,yD,yD,jz];omega)
theorem zfB:zi.subs.length=2:=by unfold zi;rw [kO,jz]
theorem zro {l:List ByteArray} {f:ByteArray -> T} (h:∀s,(f s).subs.length=1):(yL (l.map f)).length=l.length:=by
 induction l with
 |nil=>exact jz
 |cons s l ih=>rw [List.map_cons,yD,h,ih,List.length_cons];omega
theorem Sk.subs {N:Int} {s:T} (h:Sk N s):s.subs.length <=2:=by
 rcases h with rfl|⟨j,_,_,rfl⟩
 ·rw [zfB];omega
 ·unfold zD;rw [jO];omega
section
variable {c:Cl} {K:Kd} {N:Int} {t s p q:T} {nx:ByteArray}
theorem zt7 {key:T} {k:Ck}:(yC key k).subs.length <=key.subs.length+k.done.length+k.secret.subs.length+7:=by
 unfold yC;split
 ·rw [zsv,zbN];unfold jC y0;rw [yD,yD,yD,yD,yD,yD,jz,zdr,zdr,zdr,zdr,zbN,zro fun s=>zdr];omega
 ·show (qM).subs.length <=_;unfold qM;rw [T.subs,yL];show 1 <=_;omega
theorem Fqx.ak_subs (h:Fqx c K):c.ak.subs.length=6:=by rw [h.ak];unfold wo yj;rw [zk5,jO,jO]
theorem Fqx.body_subs (h:Fqx c K):c.body.subs.length=4:=by rw [h.body];unfold km;rw [kO,yD,yD,jz,zcW,zcW]
theorem Fqx.key_subs (h:Fqx c K):c.key.subs.length=2:=by rw [h.key,zit,jO]
theorem Fqx.wrap_subs (h:Fqx c K):c.wrap.subs.length=14:=by
 rw [h.wrap];unfold wh kx zbs yj;simp only [kO,yD,jz,zbO,jO]
theorem zp4 (h:Fqx c K):(c.says p q).subs.length=35+p.subs.length+q.subs.length:=by
 unfold Cl.says vT qV;simp only [kO,yD,jz,zbO,zdb,h.ak_subs,h.body_subs,h.wrap_subs];omega
theorem zEn (h:Fqx c K) (hn:isM nx) (hs:s.subs.length <=2):(prf c nx s xT 0).subs.length <=50:=by
 have hx:xT.subs.length=1:=by unfold xT;exact jO
 have hd:c.seed.subs.length=1:=by rw [h.seed,jO]
 rcases hn with rfl|rfl|rfl
 ·rw [zcv];unfold wJ zax tCk;simp only [kO,yD,jz,zbO,zdb,zk5,znh,h.ak_subs,h.body_subs,h.key_subs];omega
 ·rw [zcb];unfold zas;simp only [kO,yD,jz,zbO,zvL,h.ak_subs,hd];omega
 ·rw [zc1];unfold vL vw kY ye;simp only [kO,yD,jz,zbO,zdb,zbN,zjh,zkm,zmC,zj9,zr6,h.body_subs,h.key_subs,hx];omega
theorem zxY (h:Fqx c K) (hn:isM nx) (hs:s.subs.length <=2):(prB c nx s xT).subs.length <=50:=by
 have hx:xT.subs.length=1:=by unfold xT;exact jO
 rcases hn with rfl|rfl|rfl
 ·rw [zdq,h.key_subs];omega
 ·rw [zc2,zjh,h.ak_subs];omega
 ·rw [zc3];unfold vw kY ye;simp only [yD,jz,zdb,zbN,zjh,zkm,zmC,zj9,zr6,h.body_subs,h.key_subs,hx];omega
theorem Hrd.subs (h:Hrd c K N t) (hF:Fqx c K):t.subs.length <=110:=by
 have hc:K.cookies.subs.length=1:=by rw [hF.cookies,jO]
 have hu:K.u.key.subs.length=2:=by rw [hF.ukey,zit,jO]
 cases h with
 |none=>rw [zfB];omega
 |first=>rw [zp4 hF,zfB];omega
 |@says nx s done h1 h2 _ _ h5=>
  have a:=zEn hF h1 h2.subs;have b:=@zt7 K.cookies ⟨c.name,c.nonce,done,s,100⟩;have:=h2.subs;rw [zp4 hF];simp only at b;omega
 |@offer nx s done h1 h2 _ _ h5=>
  have b:=@zt7 K.cookies ⟨c.name,c.nonce,done,s,100⟩;have:=h2.subs;simp only at b;have ho:(yO K.u nx s).subs.length <=20:=by
   unfold yO;split
   ·rw [kO,jz];omega
   ·split
    ·unfold wS ye;simp only [kO,yD,jz,zkm,zmC,zj9,hu];omega
    ·unfold wH;simp only [kO,yD,jz];omega
  unfold jo;simp only [zbO,kO,yD,jz,zcW,hF.ak_subs];omega
theorem zxy {base:T} {set:List ByteArray} (hF:Fqx c K) (hb:base.subs.length <=50) (hl:set.length <=3):(ja c K N base set).subs.length <=200:=by
 have hk:K.key.subs.length=1:=by rw [hF.kkey,jO]
 unfold ja kz vU tkt jo qu zD jU;simp only [zbO,kO,yD,jz,zcW,znh,zk5,zdb,zbN,jO,hF.ak_subs,hk,zro fun s=>@zcW s];omega
theorem Sk.sOk (h:Sk N s) (hN:N <=1000) (hn:nx=zP -> s=zi) (hn':nx≠zP -> s≠zi):Abs.sOk nx s:=by
 unfold Abs.sOk;split
 ·rename_i e;exact hn e
 ·rename_i e;rcases h with rfl|⟨j,h1,h2,rfl⟩
  ·exact absurd rfl (hn' e)
  ·exact wG (by omega)
theorem zhw:Ti zi 2 12:=(jE (n:=wE) (m:=4) (d:=1) (by decide) (Nat.le_refl _) .nil (Nat.le_refl _)).up (by omega) (by omega)
theorem Sk.ti (h:Sk N s) (hN:N <=1000):Ti s 2 1004:=by
 rcases h with rfl|⟨j,h1,h2,rfl⟩
 ·exact zhw.up (by omega) (by omega)
 ·exact (wG (by omega)).ti.up (by omega) (by omega)
theorem Sk.ti' (h:Sk N s) (hN:N <=1000) (hn:s≠zi):atT s:=by
 rcases h with rfl|⟨j,h1,h2,rfl⟩
 ·exact absurd rfl hn
 ·exact wG (by omega)
theorem zc7 {n:ByteArray} (hn:n.size <=1000):Ti (yF n) 1 1005:=zb1 (n:=eqB n) (m:=1001) ziq (by rw [zez];omega)
theorem zDC {n:Int} (hn:inI n):Ti (qb n) 1 1005:=zc7 (by have:=zb0 hn;omega)
theorem TiL.of {l:List T} {d m:Nat} (h:∀t∈l,Ti t d m):TiL l d (m * l.length):=by
 induction l with
 |nil=>exact .nil
 |cons t l ih=>
  have:=TiL.cons (h t (by simp)) (ih fun u hu=>h u (by simp [hu])) (Nat.le_refl _);rw [List.length_cons,Nat.mul_succ,Nat.add_comm];exact this
theorem TiL.up {l:List T} {d b d' b':Nat} (h:TiL l d b) (hd:d <=d') (hb:b <=b'):TiL l d' b':=⟨h.s,h.o,fun t ht=>Nat.le_trans (h.d t ht) hd,Nat.le_trans h.b hb⟩
theorem zkV:Ti yj 1 1004:=wt (by decide) (by show 4 <=_;omega)
theorem zyg:Ti (ze jn) 1 1004:=wt (by decide) (by show 3 <=_;omega)
theorem zcu {k t:T} {n:Int} {d d' b b':Nat} (h:Ti k d b) (h':Ti t d' b') (hn:inI n):Ti (yG k n t) (max (d+1) d'+1) (b+0+24+4+(b'+0)+0+4):=zeT (zbG h hn) h'
theorem Fqx.wrap_ti (h:Fqx c K):Ti c.wrap 8 8000:=by
 have in2:inI 2:=by unfold inI;omega
 have tk:Ti (ze qt) 1 1004:=wt (by decide) (by show 3 <=_;omega);have t1:=zcu (n:=2) tk (jE (n:=qQ) (m:=4) (d:=1) (by decide) (Nat.le_refl _) (.cons zkV .nil (by omega)) (by omega)) in2;have t2:=zcu (n:=11) zkV (jE (n:=vO) (m:=4) (d:=1) (by decide) (Nat.le_refl _) (.cons zyg .nil (by omega)) (by omega)) i11;rw [h.wrap];exact (jE (n:=zaG) (m:=5) (d:=6) (by decide) (Nat.le_refl _) (.cons t1 (.cons t2 .nil (by omega)) (by omega)) (by omega)).up (by omega) (by omega)
theorem zm8 (hF:Fqx c K) (hz:Tz c K) (hp:Ti p 40 200000) (hq:Ti q 40 200000):Ti (c.says p q) 50 500000:=by
 have tr:=zcu (n:=51) hz.a (jE (n:=vp) (m:=4) (d:=40) (by decide) (Nat.le_refl _) (.cons (kI hz.b) (.cons hp (.cons hq .nil (by omega)) (by omega)) (by omega)) (by omega)) i51;exact (jE (n:=kB) (m:=6) (d:=48) (by decide) (Nat.le_refl _) (.cons hz.b (.cons hF.wrap_ti (.cons tr .nil (by omega)) (by omega)) (by omega)) (by omega)).up (by omega) (by omega)
theorem zsI {done:List ByteArray} (hF:Fqx c K) (hz:Tz c K) (hs:Ti s 2 1004) (hd:∀d∈done,isM d) (hl:done.length <=3):Ti (yC K.cookies ⟨c.name,c.nonce,done,s,100⟩) 6 20000:=by
 have hsf:s.fit=true:=zeB.2 ⟨hs.s,hs.o,Nat.le_trans hs.d (by omega)⟩;unfold yC;rw [hz.ck,hsf];simp only [Bool.and_self,if_true];have tc:Ti K.cookies 1 1004:=by rw [hF.cookies];exact wt (by decide) (by show 6 <=_;omega)
 have hn:=hz.n;have hm:=hz.m;have td:∀(b:UInt8) (n:ByteArray),n.size <=1000 -> Ti (zJ (⟨#[b]⟩++n)) 1 1005:=fun b n h=>zb1 (m:=1001) (kT (by show 1≠0;omega)) (by rw [ByteArray.size_append];have:(⟨#[b]⟩:ByteArray).size=1:=rfl;omega);have tdn:TiL (y0 done) 1 3015:=(TiL.of (m:=1005) (l:=y0 done) (d:=1) fun t ht=>by
  unfold y0 at ht;obtain ⟨d,hd',rfl⟩:=List.mem_map.1 ht;refine td 100 d ?_;rcases hd d hd' with rfl|rfl|rfl
  ·show 9 <=_;omega
  ·show 3 <=_;omega
  ·show 5 <=_;omega).up (Nat.le_refl _) (by rw [znc];omega)
 have ti100:(zq 100).size <=1000:=by have:=zb0 (n:=100) (by unfold inI;omega);omega
 exact (zeT tc (zac (l:=jC ⟨c.name,c.nonce,done,s,100⟩) (d:=3) (.cons (zb1 (n:=⟨#[99,111,111,107,105,101]⟩) (m:=6) (by decide) (Nat.le_refl _)) (.cons (td 99 _ hn) (.cons (td 110 _ hm) (.cons (zac tdn) (.cons hs (.cons (td 117 _ ti100) .nil (by omega)) (by omega)) (by omega)) (by omega)) (by omega)) (by omega)))).up (by omega) (by omega)
theorem Hrd.ti (h:Hrd c K N t) (hF:Fqx c K) (hz:Tz c K) (hN:N <=1000):Ti t 55 1000000:=by
 have nn:Ti zi 40 200000:=zhw.up (by omega) (by omega);have x_at':atT xT:=zdY;cases h with
 |none=>exact zhw.up (by omega) (by omega)
 |first=>exact (zm8 hF hz nn nn).up (by omega) (by omega)
 |@says nx s done h1 h2 h3 h4 h5=>
  have hp:Ti (prf c nx s xT 0) 40 200000:=zmd hz h1 (fun e=>(h2.ti' hN (h3 e))) x_at' (by unfold inI;omega);exact (zm8 hF hz hp ((zsI hF hz (h2.ti hN) h4 h5).up (by omega) (by omega))).up (by omega) (by omega)
 |@offer nx s done h1 h2 h3 h4 h5=>
  have tc:=zsI hF hz (h2.ti hN) h4 h5;have ts:=h2.ti hN;have ho:Ti (yO K.u nx s) 20 20000:=by
   unfold yO;split
   ·exact (jE (n:=zP) (m:=9) (d:=1) (by decide) (Nat.le_refl _) .nil (Nat.le_refl _)).up (by omega) (by omega)
   ·split
    ·exact (jE (n:=zL) (m:=5) (d:=8) (by decide) (Nat.le_refl _) (.cons (zbt (zbp ts) (vA (n:=⟨#[119,111,114,100]⟩) (m:=4) hz.u (by decide) (Nat.le_refl _))) .nil (by omega)) (by omega)).up (by omega) (by omega)
    ·exact (jE (n:=zG) (m:=3) (d:=2) (by decide) (Nat.le_refl _) (.cons ts .nil (by omega)) (by omega)).up (by omega) (by omega)
  have hm:=hz.m;exact (zcu (n:=52) hz.a (jE (n:=qW) (m:=6) (d:=30) (by decide) (Nat.le_refl _) (.cons (zc7 hm) (.cons (jE (n:=jJ) (m:=4) (d:=20) (by decide) (by decide) (.cons ho (.cons tc .nil (by omega)) (by omega)) (by omega)) .nil (by omega)) (by omega)) (by omega)) i52).up (by omega) (by omega)
theorem zIs (hz:Tz c K) (hn:isM nx) (hs:nx≠zP -> atT s):Ti (prB c nx s xT) 30 100000:=by
 have i0:inI 0:=by unfold inI;omega
 have i46:inI 46:=by unfold inI;omega
 rcases hn with rfl|rfl|rfl
 ·rw [zdq];exact hz.k.up (by omega) (by omega)
 ·rw [zc2];exact (zbG hz.a i46).up (by omega) (by omega)
 ·rw [zc3];have tS:=(hs vM.symm).ti;have tX:Ti xT 1 1004:=atT.ti zdY;obtain ⟨tSh,_⟩:=zlp tX tS (tX.sb (by omega) (by omega)).1.txt (tS.sb (by omega) (by omega)).1.txt;have tWd':=vA (n:=⟨#[119,111,114,100]⟩) (m:=4) hz.k (by decide) (Nat.le_refl _);have tmY:=zbt (zbp tS) tWd';have tmX:=zbt (zbp tX) tWd';have tP:=kI (zac (d:=10) (.cons tSh (.cons tWd' (.cons tmY (.cons tmX (.cons (kI hz.b) .nil (by omega)) (by omega)) (by omega)) (by omega)) (by omega)));exact (zbG tP i0).up (by omega) (by omega)
theorem zDK {base:T} {set:List ByteArray} (hF:Fqx c K) (hz:Tz c K) (hb:Ti base 30 100000) (hd:∀d∈set,isM d) (hl:set.length <=3) (hN:0 <=N /\ N <=900):Ti (ja c K N base set) 55 1000000:=by
 have d1:=(wG (n:=N+1) (by omega)).ti;have d2:=(wG (n:=N+1+1) (by omega)).ti;have i3:inI 3:=by unfold inI;omega
 have tk:Ti K.key 1 1004:=by rw [hF.kkey];exact wt (by decide) (by show 3 <=_;omega)
 have tw:TiL (jU set) 1 3015:=(TiL.of (m:=1005) (l:=jU set) (d:=1) fun t ht=>by
  obtain ⟨d,hd',rfl⟩:=List.mem_map.1 ht;refine zc7 ?_;rcases hd d hd' with rfl|rfl|rfl
  ·show 9 <=_;omega
  ·show 3 <=_;omega
  ·show 5 <=_;omega).up (Nat.le_refl _) (by unfold jU;rw [List.length_map];omega)
 have t1:Ti (tkt K.key c.name (zD (N+1)) set 0) 8 12000:=(zcu (n:=3) tk (jE (n:=zfr) (m:=6) (d:=2) (by decide) (Nat.le_refl _) (.cons (zc7 hz.n) (.cons d1 (.cons (zac tw) (.cons (zDC (n:=0) (by unfold inI;omega)) .nil (by omega)) (by omega)) (by omega)) (by omega)) (by omega)) i3).up (by omega) (by omega);unfold ja kz;generalize tkt K.key c.name (zD (N+1)) set 0=tt at *;obtain ⟨j1,j2⟩:=zbz (f:=zcj) (by show 13 <=90;omega);obtain ⟨j3,j4⟩:=zbz (f:=zcK) (by show 8 <=90;omega);have tr:Ti (qu (zD (N+1+1)) base) 36 110000:=(kI (zac (d:=31) (.cons (vA d2 j1 j2) (.cons (vA hb j3 j4) .nil (by omega)) (by omega)))).up (by omega) (by omega);have te:Ti (vU (zD (N+1+1)) base (zD (N+1)) c.nonce tt) 42 150000:=(zcu (n:=3) tr (jE (n:=kM) (m:=3) (d:=9) (by decide) (Nat.le_refl _) (.cons d1 (.cons (zc7 hz.m) (.cons (kI t1) .nil (by omega)) (by omega)) (by omega)) (by omega)) i3).up (by omega) (by omega);have ta:Ti (jo c.ak c.nonce (zj vk [zD (N+1+1),z8 tt])) 42 150000:=(zcu (n:=52) hz.a (jE (n:=qW) (m:=6) (d:=30) (by decide) (Nat.le_refl _) (.cons (zc7 hz.m) (.cons (jE (n:=vk) (m:=6) (d:=9) (by decide) (Nat.le_refl _) (.cons d2 (.cons (kI t1) .nil (by omega)) (by omega)) (by omega)) .nil (by omega)) (by omega)) (by omega)) i52).up (by omega) (by omega);exact (jE (n:=zal) (m:=6) (d:=42) (by decide) (Nat.le_refl _) (.cons t1 (.cons te (.cons ta .nil (by omega)) (by omega)) (by omega)) (by omega)).up (by omega) (by omega)
end
structure Dt (c:Cl) (K:Kd) (m:T) (st:List ByteArray) (i:Nat) (nx:ByteArray) (s:T):Prop where
 cut:∃done rest,st=done++nx::rest /\ i=done.length+1
 im:isM nx
 sk:Sk K.n s
 sn:nx≠zP -> s≠zi
 b:c.base=prB c nx s xT
structure Cv (st:List ByteArray) (i:Nat) (c:Cl) (K:Kd) (m:T) (F:List T):Prop where
 sti:Sti st i c K m 0
 fq:Fqx c K
 tz:Tz c K
 seed:c.seed=K.u.seed
 hd:∀t∈F,Hrd c K K.n t
 hm:Hrd c K K.n m
 m0:c.says zi zi∈F
 len:F.length=2 * i+1
 n:0 <=K.n /\ K.n <=(i:Int)
 dt:0 < i -> ∃nx s,Dt c K m st i nx s
theorem Fqx.keys {c:Cl} {K:Kd} (h:Fqx c K):c.key=K.u.key:=h.key.trans h.ukey.symm
theorem zGi {c c':Cl} (h:Csm c c') {nx:ByteArray} {s x:T}:prB c' nx s x=prB c nx s x:=by
 unfold prB;rw [h.ak,h.key,h.body]
theorem Hrd.congr {c c':Cl} {K K':Kd} {N:Int} {t:T} (h:Hrd c K N t) (hc:Csm c c') (hk:K'.cookies=K.cookies) (hu:K'.u.key=K.u.key) (hn:c'.nonce=c.nonce) (hm:c'.name=c.name):Hrd c' K' N t:=by
 cases h with
 |none=>exact .none
 |first=>rw [<- hc.says];exact .first
 |says h1 h2 h3 h4 h5=>
  have:=@Hrd.says c' K' N _ _ _ h1 h2 h3 h4 h5;rw [hc.says,zAK hc,hk,hn,hm]at this;exact this
 |@offer nx s done h1 h2 h3 h4 h5=>
  have:=@Hrd.offer c' K' N _ _ _ h1 h2 h3 h4 h5;have ho:yO K'.u nx s=yO K.u nx s:=by unfold yO;rw [hu]
  rw [hk,hn,hm,hc.ak,ho]at this;exact this
theorem Fqx.congr {c c':Cl} {K K':Kd} (h:Fqx c K) (hc:Csm c c') (hn:c'.nonce=c.nonce) (hm:c'.name=c.name) (k1:K'.key=K.key) (k2:K'.cookies=K.cookies) (k3:K'.u.key=K.u.key):Fqx c' K':=
 ⟨hc.ak.trans h.ak,hc.wrap.trans h.wrap,by rw [hc.body,hn];exact h.body,hm.trans h.name,hc.key.trans h.key,hc.seed.trans h.seed,k1.trans h.kkey,k2.trans h.cookies,k3.trans h.ukey⟩
theorem Tz.congr {c c':Cl} {K K':Kd} (h:Tz c K) (hc:Csm c c') (hn:c'.nonce=c.nonce) (hm:c'.name=c.name) (k1:K'.key=K.key) (k2:K'.cookies=K.cookies) (k3:K'.u.key=K.u.key):Tz c' K':=
 ⟨by rw [hc.ak];exact h.a,by rw [hc.key];exact h.k,by rw [hc.body];exact h.b,by rw [hc.seed];exact h.d,by rw [k3];exact h.u,by rw [hc.wrap];exact h.w,by rw [k2];exact h.ck,by rw [k2];exact h.cb,by rw [k1];exact h.kb,by rw [hm];exact h.n,by rw [hn];exact h.m⟩
theorem zC8 {c:Cl} {nx:ByteArray} {s x:T}:Csm c (c.aft nx s x):=⟨rfl,rfl,rfl,rfl,rfl,rfl,rfl,rfl,rfl,rfl⟩
theorem zzi {K:Kd} {nx:ByteArray} (h:0 <=K.n):K.n <=(K.offK nx).n /\ (K.offK nx).n <=K.n+1 /\ Sk (K.offK nx).n (K.offS nx) /\ (nx≠zP -> K.offS nx≠zi):=by
 unfold Kd.offK Kd.offS;split
 ·exact ⟨Int.le_refl _,by omega,.inl rfl,fun e=>absurd ‹_› e⟩
 ·exact ⟨by show K.n <=K.n+1;omega,Int.le_refl _,.inr ⟨K.n+1,by omega,Int.le_refl _,rfl⟩,fun _=>zHL⟩
section
variable {st:List ByteArray} {i:Nat} {c:Cl} {K:Kd} {m:T} {F:List T}
theorem Cv.out (h:Cv st i c K m F) (hi:i < st.length) (gk:c.key=K.u.key) (gs:c.seed=K.u.seed) (hn:K.n <=900):∃(K1:Kd) (D:List ByteArray) (nx:ByteArray) (rest:List ByteArray),isM nx /\ (∀d∈D,isM d) /\ D.length <=3 /\ st=D++nx::rest /\ D.length=i /\ K1.n=K.n /\ K1.key=K.key /\ K1.cookies=K.cookies /\ K1.u.key=K.u.key /\
 K.req m 0=(jo c.ak c.nonce (zj jJ [yO K.u nx (K1.offS nx),yC K.cookies ⟨c.name,c.nonce,D,K1.offS nx,100⟩]),K1.offK nx,none) /\
 c.take (K.req m 0).1 0 xT=(c.aft nx (K1.offS nx) xT,c.says (prf c nx (K1.offS nx) xT 0) (yC K.cookies ⟨c.name,c.nonce,D,K1.offS nx,100⟩),0):=by
 have hg:∀d,gud c K d:=fun d=>by unfold gud;split<;>assumption
 rcases h.sti with ⟨rfl,nx,rest,hI,hs⟩|⟨done,nx,rest,hM,hs,hd⟩
 ·have hr:=hI.req (now:=0);refine ⟨K,[],nx,rest,hI.im nx (by simp),by simp,by simp,by simpa using hs,rfl,rfl,rfl,rfl,rfl,hr,?_⟩;rw [hr];exact zio hI.fz.on (hI.im nx (by simp)) (fun _=>gk.symm) fun _=>hI.cn
 ·match rest,hM,hs with
  |[],hM,hs=>rw [hs]at hi;simp at hi;omega
  |nx2::rest,hM,hs=>
   obtain ⟨s0,K1,hr,k1⟩:=hM.good (now:=0) (by omega) (hg nx);have inx2:=hM.im nx2 (by simp);have hlen:(done++[nx]).length≠K.u.set.length:=by rw [hM.set];simp
   have hget:K.u.set[(done++[nx]).length]?=some nx2:=by
    rw [hM.set,show done++nx::nx2::rest=(done++[nx])++nx2::rest by simp];simp
   have hr2:K.req m 0=(jo c.ak c.nonce (zj jJ [yO K.u nx2 (K1.offS nx2),yC K.cookies ⟨c.name,c.nonce,done++[nx],K1.offS nx2,0+100⟩]),K1.offK nx2,none):=by
    rw [hr,zrM hlen hget,zlv (c:=c) (K:=K) (D:=done++[nx]) (now:=0) rfl rfl rfl rfl rfl rfl k1.cookies]
   have hcn:nx2=zG -> c.counter=2:=fun e=>by
    apply hM.ct.2;intro e';rcases List.mem_append.1 e' with e'|e'
    ·exact hM.nd.2.2 nx2 (by simp) (by rw [e];exact e')
    ·have:=List.mem_singleton.1 e';exact hM.nd.2.1 (by rw [<- this,<- e];simp)
   have hl:=hM.len;refine ⟨K1,done++[nx],nx2,rest,inx2,fun d hd=>hM.im d (by simp at hd ⊢;rcases hd with hd|hd<;>simp [hd]),by simp at hl ⊢;omega,by rw [hs];simp,by rw [hd];simp,k1.n,k1.key,k1.cookies,k1.uk,hr2,?_⟩;rw [hr2];exact zio hM.fz.on inx2 (fun _=>gk.symm) hcn
theorem Cv.step (h:Cv st i c K m F) (hi:i < st.length) (gk:c.key=K.u.key) (gs:c.seed=K.u.seed) (hl:st.length <=3):Cv st (i+1) (c.take (K.req m 0).1 0 xT).1 (K.req m 0).2.1 (c.take (K.req m 0).1 0 xT).2.1 (F++[(K.req m 0).1,(c.take (K.req m 0).1 0 xT).2.1]):=by
 have hn:=h.n;obtain ⟨_,_,hs,_,hsd,_⟩:=h.sti.step (x:=xT) (now:=0) hi (by omega) (by omega) gk gs (by omega) zdY;obtain ⟨K1,D,nx,rest,inx,hD,hDl,hst,hDi,kn,k1,k2,k3,hr,ht⟩:=h.out hi gk gs (by omega);obtain ⟨o1,o2,o3,o4,o5⟩:=@zdM K1 nx;obtain ⟨n1,n2,sk,sn⟩:=@zzi K1 nx (by omega);rw [ht]at hs hsd ⊢;rw [hr]at hs hsd ⊢;simp only at hs hsd ⊢;have hc:Csm c (c.aft nx (K1.offS nx) xT):=zC8;have e1:(K1.offK nx).key=K.key:=o1.trans k1;have e2:(K1.offK nx).cookies=K.cookies:=o2.trans k2;have e3:(K1.offK nx).u.key=K.u.key:=by rw [o3];exact k3
 have hA:Hrd c K (K1.offK nx).n (jo c.ak c.nonce (zj jJ [yO K.u nx (K1.offS nx),yC K.cookies ⟨c.name,c.nonce,D,K1.offS nx,100⟩])):=.offer inx sk sn hD hDl;have hB:Hrd c K (K1.offK nx).n (c.says (prf c nx (K1.offS nx) xT 0) (yC K.cookies ⟨c.name,c.nonce,D,K1.offS nx,100⟩)):=.says inx sk sn hD hDl;have co:∀{t},Hrd c K (K1.offK nx).n t -> Hrd (c.aft nx (K1.offS nx) xT) (K1.offK nx) (K1.offK nx).n t:=fun h=>h.congr hc e2 e3 rfl rfl;refine ⟨hs,h.fq.congr hc rfl rfl e1 e2 e3,h.tz.congr hc rfl rfl e1 e2 e3,hsd,fun t ht=>co ?_,co hB,?_,?_,⟨by omega,by omega⟩,fun _=>⟨nx,K1.offS nx,⟨D,rest,hst,by omega⟩,inx,sk,sn,?_⟩⟩
 ·rcases List.mem_append.1 ht with ht|ht
  ·exact (h.hd t ht).mono (by omega)
  ·simp only [List.mem_cons,List.not_mem_nil,or_false]at ht;rcases ht with rfl|rfl
   ·exact hA
   ·exact hB
 ·rw [hc.says];exact List.mem_append.2 (.inl h.m0)
 ·rw [List.length_append,h.len];simp;omega
 ·rw [zGi hc];rfl
theorem Cv.last (h:Cv st i c K m F) (hi:i=st.length) (gk:c.key=K.u.key) (gs:c.seed=K.u.seed):(K.req m 0).1=ja c K K.n c.base st:=by
 have hg:∀d,gud c K d:=fun d=>by unfold gud;split<;>assumption
 rcases h.sti with ⟨rfl,nx,rest,hI,hs⟩|⟨done,nx,rest,hM,hs,hd⟩
 ·rw [hs]at hi;simp at hi
 ·match rest,hM,hs with
  |nx2::rest,hM,hs=>rw [hs,hd]at hi;simp at hi
  |[],hM,hs=>
   obtain ⟨s0,K1,hr,k1⟩:=hM.good (now:=0) (by omega) (hg nx);have hlen:(done++[nx]).length=K.u.set.length:=by rw [hM.set]
   rw [hr,ztq hlen];show K1.tktT _ _=_;unfold Kd.tktT ja;rw [k1.n,k1.key,hs];rfl
theorem zdm {j:Int} {b:UInt8} {l:List UInt8} (h:b≠107):kdB++zq j≠(⟨(b::l).toArray⟩:ByteArray):=fun e=>by
 have h2:=congrArg (fun x:ByteArray=>x.data[0]?) e;have h3:(kdB++zq j).data[0]?=some 107:=by
  rw [show (kdB++zq j).data=kdB.data++(zq j).data from ByteArray.data_append,Array.getElem?_append_left (by show 0 < 4;omega)];rfl
 simp only [h3]at h2;simp at h2;exact h h2.symm
theorem zqe {j:Int}:kdB++zq j≠qt:=fun e=>by
 have:=congrArg ByteArray.size e;rw [ByteArray.size_append]at this;have h1:kdB.size=4:=rfl;have h2:qt.size=3:=rfl;omega
theorem znb {j k:Int} (hj:0 <=j /\ j <=1000) (hk:0 <=k /\ k <=1000) (h:kdB++zq j=kdB++zq k):j=k:=ziH (by omega) (by omega) (zkG h)
def Aw0:ByteArray -> Bool:=fun _=>false
def Aw1:ByteArray -> Bool:=fun n=>decide (n=zQ)
def Aw2:ByteArray -> Bool:=fun n=>!decide (n=zQ) && !decide (n=yB)
def Aw3 (N:Int):ByteArray -> Bool:=fun n=>Aw2 n && !decide (n=qt) && !decide (n=kdB++zq (N+1))
theorem zmt {j:Int}:Aw2 (kdB++zq j)=true:=by
 unfold Aw2;have h1:kdB++zq j≠zQ:=zdm (by decide);have h2:kdB++zq j≠yB:=zdm (by decide);simp [h1,h2]
theorem zpH {N:Int}:Big Aw2 N:=⟨by decide,by decide,by decide,fun j _ _=>zmt⟩
theorem ze8 {N:Int} {n:ByteArray} (h1:Aw2 n=true) (h2:n≠qt) (h3:n≠kdB++zq (N+1)):Aw3 N n=true:=by unfold Aw3;simp [h1,h2,h3]
theorem zpe {N:Int} (hN:0 <=N /\ N <=900):Big (Aw3 N) N:=
 ⟨ze8 (by decide) (by decide) (fun e=>zdm (by decide) e.symm),ze8 (by decide) (by decide) (fun e=>zdm (by decide) e.symm),ze8 (by decide) (by decide) (fun e=>zdm (by decide) e.symm),fun j h1 h2=>ze8 zmt zqe fun e=>by have:=znb (by omega) (by omega) e;omega⟩
theorem zr4 {c:Cl} {K:Kd}:Sml Aw0 c K:=⟨rfl,rfl,rfl⟩
theorem zs7 {c:Cl} {K:Kd}:Sml Aw1 c K:=⟨by decide,by decide,by decide⟩
structure ziy (st:List ByteArray) (F U:List T) (s:T):Prop where
 test:∀L1 L2,jP F U L1 -> jP (F++[ze zQ]) U L2 -> ze1 L1 L2 (ze zQ)=false
 no:∀t∈[ze zQ,ze yB,yj,s,y5 (ze zQ) naB],∀L,jP F U L -> mkP L t=false
 ses:∀L,jP (F++[yj]) U L -> mkP L s=decide (st.getLast?=some zG)
 pw:∀L,jP (F++[yj]) U L -> mkP L (ze zQ)=false
 sd:∀L,jP (F++[yj]) U L -> mkP L (ze yB)=false
theorem Cv.ask (h:Cv st i c K m F) (hi:i=st.length) (h0:0 < i) (hl:st.length <=3) (U:List T):ziy st (F++[ja c K K.n c.base st,zi]) U (zD (K.n+1)):=by
 have hn:=h.n;obtain ⟨nx,s,d⟩:=h.dt h0;have hlast:st.getLast?=some nx:=by
  obtain ⟨done,rest,h1,h2⟩:=d.cut;have:rest=[]:=by
   rw [h1]at hi;simp at hi;exact List.eq_nil_of_length_eq_zero (by omega)
  rw [h1,this];simp
 have fa:∀{P:T -> Bool},(∀t,Hrd c K K.n t -> P t=true) -> P (ja c K K.n c.base st)=true -> ∀t∈F++[ja c K K.n c.base st,zi],P t=true:=by
  intro P hp hl t ht;simp only [List.mem_append,List.mem_cons,List.not_mem_nil,or_false]at ht;rcases ht with ht|rfl|rfl
  ·exact hp t (h.hd t ht)
  ·exact hl
  ·exact hp _ .none
 have fb:∀{P:T -> Bool},P yj=true -> (∀t∈F++[ja c K K.n c.base st,zi],P t=true) -> ∀t∈F++[ja c K K.n c.base st,zi]++[yj],P t=true:=by
  intro P hp hl t ht;rcases List.mem_append.1 ht with ht|ht
  ·exact hl t ht
  ·rw [List.mem_singleton.1 ht];exact hp
 have k0:∀t∈F++[ja c K K.n c.base st,zi],knT Aw0 t=true:=fa (fun t ht=>zfO t (ht.pr zr4 h.fq)) (zfO _ (zut zr4 h.fq rfl));have p1:∀t∈F++[ja c K K.n c.base st,zi],prT Aw1 t=true:=fa (fun t ht=>ht.pr zs7 h.fq) (zut zs7 h.fq (by
  unfold Aw1;exact decide_eq_false (zdm (by decide))))
 have k2:∀t∈F++[ja c K K.n c.base st,zi]++[yj],knT Aw2 t=true:=fb (by unfold yj;rw [jT];decide) (fa (fun t ht=>ht.kn zpH h.fq (by omega)) (zF5 zpH hn.1));refine ⟨fun L1 L2 h1 h2=>zv6 h1 h2 k0 (by rw [jT];rfl) p1 (by rw [zw7];decide),fun t ht L hL=>hL.kn k0 ?_,fun L hL=>?_,fun L hL=>hL.kn k2 (by rw [jT];decide),fun L hL=>hL.kn k2 (by rw [jT];decide)⟩
 ·simp only [List.mem_cons,List.not_mem_nil,or_false]at ht;rcases ht with rfl|rfl|rfl|rfl|rfl
  ·rw [jT];rfl
  ·rw [jT];rfl
  ·unfold yj;rw [jT];rfl
  ·unfold zD;rw [jT];rfl
  ·rw [zrY,jT];rfl
 ·rw [hlast];by_cases ho:nx=zG
  ·rw [decide_eq_true (by rw [ho])];have hb:=d.b;rw [ho,zc2]at hb;rw [hb]at hL;exact zIy (c:=c) (K:=K) (set:=st) hL h.fq (by simp) (by simp [h.m0]) (by simp)
  ·rw [decide_eq_false (by simpa using ho)];have hb:knT (Aw3 K.n) c.base=false:=by
    rw [d.b];have hk:knT (Aw3 K.n) c.key=false:=by rw [h.fq.key,zrY,jT];unfold Aw3 Aw2;simp
    rcases d.im with rfl|rfl|rfl
    ·rw [zdq];exact hk
    ·exact absurd rfl ho
    ·rw [zc3];unfold vw kY;rw [zlT,zee,zcG];simp [zzf,hk]
   refine hL.kn (A:=Aw3 K.n) (fb (by unfold yj;rw [jT];exact (zpe (by omega)).host) (fa (fun t ht=>ht.kn (zpe (by omega)) h.fq (by omega)) (zBo ?_ hb ?_))) ?_
   ·rw [h.fq.kkey,jT];unfold Aw3;simp
   ·exact ze8 zmt zqe fun e=>by have:=znb (by omega) (by omega) e;omega
   ·unfold zD;rw [jT];unfold Aw3;simp
def uni (F:List T) (s:T):List T:=yL (F++[yj,ze zQ,ze yB,s,y5 (ze zQ) naB])
theorem zEv {l:List T} (h:∀t∈l,t.sb) (hk:∀t∈l,t.subs.length <=500) (hl:(yL l).length <=1000):UOk (yL l) where
 tidy:=fun t ht=>(zin (fun t h u hu=>T.sb.kid h hu) l h t ht).1
 kids:=zlF l
 len:=hl
 klen:=by
  have:∀(l:List T),(∀t∈l,t.subs.length <=500) -> ∀u∈yL l,u.kids.length <=500:=by
   intro l
   induction l with
   |nil=>intro _ u hu;cases hu
   |cons t l ih=>
    intro hk u hu;rw [yL,List.mem_append]at hu;rcases hu with hu|hu
    ·have:=zrK t u hu;have:=hk t (by simp);omega
    ·exact ih (fun v hv=>hk v (by simp [hv])) u hu
  exact this l hk
theorem zvl {l:List T} {m:Nat} (h:∀t∈l,t.subs.length <=m):(yL l).length <=m * l.length:=by
 induction l with
 |nil=>rw [jz];omega
 |cons t l ih=>
  have:=ih fun u hu=>h u (by simp [hu]);have:=h t (by simp);rw [yD,List.length_cons,Nat.mul_succ];omega
theorem zoc {a b:List T}:(yL (a++b)).length=(yL a).length+(yL b).length:=by
 induction a with
 |nil=>rw [List.nil_append,jz];omega
 |cons t l ih=>rw [List.cons_append,yD,yD,ih];omega
theorem Cv.uni (h:Cv st i c K m F) (hi:i=st.length) (h0:0 < i) (hl:st.length <=3) (him:∀d∈st,isM d):(∀t∈F++[ja c K K.n c.base st,zi]++[yj,ze zQ,ze yB,zD (K.n+1),y5 (ze zQ) naB],t.sb) /\ UOk (uni (F++[ja c K K.n c.base st,zi]) (zD (K.n+1))):=by
 have hn:=h.n;obtain ⟨nx,s,d⟩:=h.dt h0;have hs:nx≠zP -> atT s:=fun e=>d.sk.ti' (by omega) (d.sn e);have tl:Ti (ja c K K.n c.base st) 55 1000000:=zDK h.fq h.tz (by rw [d.b];exact zIs h.tz d.im hs) him hl (by omega);have sl:(ja c K K.n c.base st).subs.length <=200:=zxy h.fq (by rw [d.b];exact zxY h.fq d.im d.sk.subs) hl;have hd:=fun t ht=>(h.hd t ht).ti h.fq h.tz (by omega);have hsd:=fun t ht=>(h.hd t ht).subs h.fq;have hsb:∀t∈F++[ja c K K.n c.base st,zi]++[yj,ze zQ,ze yB,zD (K.n+1),y5 (ze zQ) naB],t.sb:=by
  intro t ht;simp only [List.mem_append,List.mem_cons,List.not_mem_nil,or_false]at ht;rcases ht with (ht|rfl|rfl)|rfl|rfl|rfl|rfl|rfl
  ·exact (hd t ht).sb (by omega) (by omega)
  ·exact tl.sb (by omega) (by omega)
  ·exact zhw.sb (by omega) (by omega)
  ·exact zkV.sb (by omega) (by omega)
  ·exact (wt zc6.1 zc6.2).sb (by omega) (by omega)
  ·exact (wt zg1.1 zg1.2).sb (by omega) (by omega)
  ·exact (wG (by omega)).ti.sb (by omega) (by omega)
  ·exact (zlH zc6.1 zc6.2 (by show 1 <=_;omega)).sb (by omega) (by omega)
 refine ⟨hsb,zEv hsb ?_ ?_⟩
 ·intro t ht;simp only [List.mem_append,List.mem_cons,List.not_mem_nil,or_false]at ht;rcases ht with (ht|rfl|rfl)|rfl|rfl|rfl|rfl|rfl
  ·have:=hsd t ht;omega
  ·omega
  ·rw [zfB];omega
  ·unfold yj;rw [jO];omega
  ·rw [jO];omega
  ·rw [jO];omega
  ·unfold zD;rw [jO];omega
  ·rw [zit,jO];omega
 ·have:=zvl (l:=F) hsd;have hl':=h.len;rw [zoc,zoc,yD,yD,jz,yD,yD,yD,yD,yD,jz,zfB,jO,jO,zit,jO];unfold yj zD;rw [jO,jO];have h7:F.length <=7:=by omega
  have:=Nat.mul_le_mul_left 110 h7;omega
end
section
variable {S:AS}
theorem GV.at_ {S:AS} {sz:Nat} {v:AV} {R:List (List AV)} (h:GV S sz v R) {i:Nat} (hi:i < R.length):∃id,jf v id /\ pev (.iaddr sz) [v,.sc (.int .i64 (i:Int))]=some (.ptr id i 0) /\ S.heap id=some (.rows sz R) /\ S.ro <=id /\ id < S.n:=by
 rcases h with ⟨rfl,_⟩|⟨id,rfl,h1,h2,h3⟩
 ·simp at hi
 ·exact ⟨id,⟨_,_,_,_,rfl⟩,by rw [zkB (by omega) (by omega)];simp,h1,h2,h3⟩
theorem zvQ {k:Nat} {L:Loc} {K:Kd} {cl no:ByteArray} {dv:AV} {s:T} (h:yA S k L K [qT cl no dv s]):∃x,pev (.iaddr 6) [L.iv,.i 0]=some (.ptr x 0 0) /\ (∀d rg,za (.ld none 3 true) d rg S [.ptr x 0 3]=some (.agg s.cells,none,S)) /\ (∀d rg,za (.ld none 1 false) d rg S [.ptr x 0 2]=some (dv,none,S)) /\ pev .lenL [L.iv]=some (.i 1):=by
 obtain ⟨x,_,h1,h2,_,_⟩:=h.gv.at_ (i:=0) (by simp);refine ⟨x,h1,fun d rg=>?_,fun d rg=>?_,h.gv.len⟩
 ·rw [yg h2,<- tri];unfold qT;rw [zu];rfl
 ·rw [yg h2];unfold qT;rw [zu];rfl
theorem zBr:call 84 [.agg zi.cells] S=some (.sc (.bool true),S):=by rw [s84,zke]
theorem zzO {l:List (ByteArray×ByteArray)}:pev .lenL [zdU l]=some (.sc (.int .i64 (l.length:Nat))):=by
 unfold zdU;rw [zkY];simp [Cl.mrow]
theorem zAr {l:List (ByteArray×ByteArray)}:(zdU l).isReg=false:=rfl
set_option maxHeartbeats 8000000 in
set_option maxRecDepth 100000 in
theorem zAi:call 131 [] S=some (.sc (.bool true),S):=by
 rw [zh zGW rfl rfl rfl];obtain ⟨S1,S2,bp,k,L,d1,d2,p,_⟩:=beg (S:={S with ro:=S.n}) (Nat.le_refl _) (j:=7);obtain ⟨S3,d3,p3,_⟩:=p.start (nonce:=n1B) (sub:=ze jn) (by show 1 <=_;omega);have hs0:=zkH (K:=kd0 (yk 7)) (j:=7) (nonce:=n1B) (sn:=jn) (t0:=0) zjN zc6 zg1 zt8 zkN;have e134:∀S,call 134 [.i 7] S=some (zB (yk 7),S):=fun S=>zqn;have e140:=fun S s=>@zeU S s;have hcl:=(Nat.le_refl 0);have gk:((c0 (ze zQ) (ze yB)).start n1B (ze jn)).key=(kd0 (yk 7)).u.key:=rfl;have gs:((c0 (ze zQ) (ze yB)).start n1B (ze jn)).seed=(kd0 (yk 7)).u.seed:=rfl;have gn:((c0 (ze zQ) (ze yB)).start n1B (ze jn)).nonce=n1B:=rfl;generalize ((c0 (ze zQ) (ze yB)).start n1B (ze jn)).says zi zi=m0 at *;generalize (c0 (ze zQ) (ze yB)).start n1B (ze jn)=cc at *;have hl3:(yk 7).length=3:=rfl;have hot:zG∈yk 7:=by simp [yk]
 generalize kd0 (yk 7)=KK at *;generalize yk 7=st7 at *;unfold n1B jn at d3;simp only [zh5];simp [-zg,zsL,d1,d2,e134,e140,d3];refine ko (α:=Nat) (R:=fun _ r=>zW S r=some (.sc (.bool true),S)) (fun i e rg S'=>i <=3 /\ NQ [0,6,7,28,29,30,31,32,33,34,35,36,37,38,39,40,41,42,43] [6] e /\ e 1=.ptr S.n 0 0 /\ e 3=.ptr k 0 0 /\ e 4=.reg 4 0 /\ e 5=.sc (.int .i64 (i:Nat)) /\ ∃c mv L K m b,Pr S' S.n c mv k L K [] b /\ b <=10+4 * i /\ Sti st7 i c K m 0 /\ c.key=K.u.key /\ c.seed=K.u.seed /\ c.nonce=n1B /\ rg 4=some m.cells /\ rg 8=none /\ rg 10=none) (fun i=>3 - i) (fun _ _ _ _ h=>h.2.1) ?_ 0 _ _ _ ?_;rotate_left
 ·refine ⟨by omega,?_,by simp,by simp,by simp,by simp,cc,_,L,KK,m0,10,p3,by omega,hs0,gk,gs,gn,by simp,by simp,by simp⟩
  repeat (first|exact vx rfl|refine yh ?_ (by simp))
 intro kk hkk i e rg S' ⟨hi,hq,g1,g3,g4,g5,c,mv,L',K,m,b,p,hb,hs,gk,gs,gn,gr,gr8,gr10⟩ ih;by_cases hc:i < 3
 ·have hc':(i:Int) < 3:=by omega
  have w2:IntKind.i64.wrap ((i:Int)+1)=((i+1:Nat):Int):=w64 (by omega);obtain ⟨S4,S5,r,c',m',mv',L'',K',q1,q2,q3,q4,q5,q6,q7,_⟩:=p.good (now:=0) (by omega) hs (by omega) (by omega) (by omega) gk gs;unfold xxB at q2;simp [-zg,zkE,g1,g3,g4,g5,gr,hc',q1,e140,q2,w2];refine ih (i+1) _ _ _ (by omega) (fun _ h=>h) ⟨by omega,?_,by simp [g1],by simp [g3],by simp [g4],by simp,c',mv',L'',K',m',b+4,q3,by omega,q4,q5,q6,q7.trans gn,by simp,by simp [gr8],by simp [gr10]⟩
  repeat (first|exact zaH hq|refine yh ?_ (by simp))
 ·have hi':i=3:=by omega
  subst hi';obtain ⟨S4,S5,r,c',mv',L'',K',dv,s,q1,q2,q3,q4,q5,q6,q7,q8,q9,q10,q11,q12,_⟩:=p.last (now:=0) (by omega) hs (by omega) (by omega) (by omega) gk gs;unfold xxB at q2;have e104:=zrE q3.cl q3.cs.z3;rw [q6]at e104;have hm:=zxr q3.cl (by rw [q11];simp;omega);have hml:c'.marks.length=3:=by rw [q11];simp [hl3]
  have e232:=zIb q3.cl;rw [q12.1 hot]at e232;obtain ⟨x,r1,r2,_,r3⟩:=zvQ q3.kd;have his:=q3.kd.at_.issued;have e61:=@s61 s s S5 q9;rw [T.same_self]at e61;have e84:=fun S=>@zBr S;have mr:=@zAr c'.marks;have ml:=@zzO c'.marks;rw [hml]at ml;have ml:pev .lenL [zdU c'.marks]=some (.i 3):=ml;rw [q8,q10,gn]at e104;unfold n1B at e104;generalize zdU c'.marks=mV at *;simp [-zg,zkE,g5];rw [hkk];rw [if_pos rfl]at e104;simp [-zg,g1,g3,g4,gr,gr8,gr10,q1,e140,q2,e104,e84,his,r1,r2,r3,e61,hm,ml,e232];simp
end
def WSt (i:Nat) (c:Cl) (K:Kd) (m:T):Prop:=
 (∃nx rest,i=0 /\ Ini c K m nx rest /\ ∃d∈nx::rest,¬gud c K d) \/ (∃done nx rest,i=done.length+1 /\ Mid c K m done nx rest 0 /\ ∃d∈nx::rest,¬gud c K d)
theorem WSt.le {i:Nat} {c:Cl} {K:Kd} {m:T} (h:WSt i c K m):i <=3:=by
 rcases h with ⟨nx,rest,rfl,_⟩|⟨done,nx,rest,rfl,hM,_⟩
 ·omega
 ·have:=hM.len;omega
theorem ztW {c c':Cl} {K K':Kd} {d:ByteArray} (h1:c'.key=c.key) (h2:c'.seed=c.seed) (h3:K'.u.key=K.u.key) (h4:K'.u.seed=K.u.seed):gud c' K' d↔gud c K d:=by
 unfold gud;rw [h1,h2,h3,h4]
structure Wrs (c:Cl) (K:Kd) (m:T) (i:Nat) (x:T):Prop where
 mlo:m.lo
 rlo:(K.req m 0).1.lo
 is:(K.req m 0).2.2=none
 en:(c.take (K.req m 0).1 0 x).1.ended=false
 nx:(c.take (K.req m 0).1 0 x).2.2≠0 \/ ((c.take (K.req m 0).1 0 x).2.2=0 /\ WSt (i+1) (c.take (K.req m 0).1 0 x).1 (K.req m 0).2.1 (c.take (K.req m 0).1 0 x).2.1)
section
variable {c:Cl} {K:Kd} {m x:T} {i:Nat}
theorem WSt.step (h:WSt i c K m) (he:c.ended=false) (hK:0 <=K.n /\ K.n <=900000) (hx:atT x):Wrs c K m i x:=by
 rcases h with ⟨nx,rest,rfl,hI,hb⟩|⟨done,nx,rest,rfl,hM,hb⟩
 ·obtain ⟨h1,h2,h3,h4⟩:=hI.step (x:=x) hK hx (now:=0) (by omega);by_cases hk:nx=zL -> K.u.key=c.key
  ·obtain ⟨h5,h6,h7,h8⟩:=h3 hk;refine ⟨hI.lo,h1,h2,by rw [h6];exact he,.inr ⟨h5,.inr ⟨[],nx,rest,rfl,h8,?_⟩⟩⟩;obtain ⟨d,hd,hg⟩:=hb;refine ⟨d,hd,fun e=>hg ?_⟩;rw [h6,h7]at e;have o:=(@zdM K nx).2.2.1;exact (ztW rfl rfl (by rw [o]) (by rw [o])).1 e
  ·have hk1:nx=zL:=by
    by_cases h:nx=zL
    ·exact h
    ·exact absurd (fun e=>absurd e h) hk
   have hk2:K.u.key≠c.key:=fun e=>hk fun _=>e;have ht:=h4 hk1 hk2;exact ⟨hI.lo,h1,h2,by rw [ht];exact he,.inl (by rw [ht];exact (show (6:Int)≠0 by decide))⟩
 ·obtain ⟨_,_,_,_,_,_,hlo,_⟩:=hM.seen (now:=0) (by omega);by_cases hgn:gud c K nx
  ·have hbr:∃d∈rest,¬gud c K d:=by
    obtain ⟨d,hd,hg⟩:=hb;rcases List.mem_cons.1 hd with rfl|hd
    ·exact absurd hgn hg
    ·exact ⟨d,hd,hg⟩
   match rest,hM,hbr with
   |[],hM,hbr=>obtain ⟨d,hd,_⟩:=hbr;cases hd
   |nx2::rest,hM,hbr=>
    obtain ⟨h1,h2,h3,h4⟩:=hM.step (x:=x) (now:=0) (by omega) hgn hK hx (by omega);by_cases hk:nx2=zL -> K.u.key=c.key
    ·obtain ⟨h5,h6,h7,_,h8,h9,h10,h11⟩:=h3 hk;refine ⟨hlo,h1,h2,h7.trans he,.inr ⟨h5,.inr ⟨done++[nx],nx2,rest,by simp,h6,?_⟩⟩⟩;obtain ⟨d,hd,hg⟩:=hbr;exact ⟨d,hd,fun e=>hg ((ztW h9 h8 h10 h11).1 e)⟩
    ·have hk1:nx2=zL:=by
      by_cases h:nx2=zL
      ·exact h
      ·exact absurd (fun e=>absurd e h) hk
     have hk2:K.u.key≠c.key:=fun e=>hk fun _=>e;have ht:=h4 hk1 hk2;exact ⟨hlo,h1,h2,by rw [ht];exact he,.inl (by rw [ht];exact (show (6:Int)≠0 by decide))⟩
  ·obtain ⟨h1,h2⟩:=hM.bad (now:=0) (by omega) hgn;have ht:c.take (K.req m 0).1 0 x=({c with on:=false},zi,6):=by rw [h1];exact zC5 hM.fz.on (by omega)
   refine ⟨hlo,?_,h2,by rw [ht];exact he,.inl (by rw [ht];exact (show (6:Int)≠0 by decide))⟩;rw [h1];unfold T.lo qp;rw [vZ,yz,jt];have hnum:(qb 6).bulk <=25:=by
    show (yF (zq 6)).bulk <=_;rw [zdj];have:=zb0 (n:=6) (by unfold inI;omega);omega
   have:wM.size=5:=rfl;omega
end
section
variable {S:AS}
theorem Pr.wrong {a:Nat} {c:Cl} {mv:AV} {k:Nat} {L:Loc} {K:Kd} {b i:Nat} {m:T} (h:Pr S a c mv k L K [] b) (hb:b <=800) (hs:WSt i c K m) (he:c.ended=false):
 ∃S1 S2 r c' m' e mv' L' K',call 137 [.ptr k 0 0,.agg m.cells,.i 0] S=some (.agg r,S1) /\ call 141 [.ptr a 0 0,.agg r,.i 0,.agg (ze xxB).cells] S1=some (.tup [.agg (T.cells m'),.sc (.int .i64 e)],S2) /\
  Pr S2 a c' mv' k L' K' [] (b+4) /\ c'.ended=false /\ (e≠0 \/ (e=0 /\ WSt (i+1) c' K' m')):=by
 have w:=hs.step he (by have:=h.ks.n;omega) zdY;obtain ⟨S1,S2,mv',L',R',d1,d2,p,is,G⟩:=h.round (by omega) w.mlo (now:=0) (by omega) ze4 w.rlo;rw [w.is]at is;rw [show R'=[] from is]at p;exact ⟨S1,S2,_,_,_,_,mv',L',_,d1,d2,p,w.en,w.nx⟩
def zux:ByteArray:=⟨#[112,97,115,115,119,111,114,100,32,98]⟩
def zpW:ByteArray:=⟨#[115,101,101,100,32,98]⟩
theorem zBk:y5 (ze zux) naB≠y5 (ze zQ) naB:=fun e=>by
 have:=(zmM.1 e).1;have:=zrh.1 this;revert this;decide
theorem zwU:ze zpW≠ze yB:=fun e=>by
 have:=zrh.1 e;revert this;decide
def pwW (seed:Bool):ByteArray:=if seed then zQ else zux
def sdW (seed:Bool):ByteArray:=if seed then zpW else yB
theorem zM2 {j:Nat} {seed:Bool} (hb:∃d∈yk j,seed=decide (d=zG)):WSt 0 ((c0 (ze (pwW seed)) (ze (sdW seed))).start n1B (ze jn)) (kd0 (yk j)) (((c0 (ze (pwW seed)) (ze (sdW seed))).start n1B (ze jn)).says zi zi):=by
 have hpw:pwW seed≠⟨#[]⟩ /\ (pwW seed).size <=1000:=by cases seed<;>exact ⟨by decide,by show 10 <=_;omega⟩
 have hsd:sdW seed≠⟨#[]⟩ /\ (sdW seed).size <=1000:=by cases seed<;>exact ⟨by decide,by show 6 <=_;omega⟩
 have h:=zkH (K:=kd0 (yk j)) (j:=j) (nonce:=n1B) (sn:=jn) (t0:=0) zjN hpw hsd zt8 zkN;rcases h with ⟨_,nx,rest,hI,hs⟩|⟨done,nx,rest,_,_,hi⟩
 ·refine .inl ⟨nx,rest,rfl,hI,?_⟩;obtain ⟨d,hd,e⟩:=hb;rw [hs]at hd;refine ⟨d,hd,fun hg=>?_⟩;unfold gud at hg;by_cases ho:d=zG
  ·rw [if_pos ho]at hg;rw [decide_eq_true ho]at e;subst e;exact zwU hg
  ·rw [if_neg ho]at hg;rw [decide_eq_false ho]at e;subst e;exact zBk hg
 ·omega
end
section
variable {S:AS}
end
section
variable {S:AS}
end
theorem zbd {tm tm' rgs:List Nat} {e:Nat -> AV} (h:NQ tm rgs e):NQ tm rgs (fgt tm' e):=by
 intro n;have:=h n;unfold fgt;split
 ·simp [okR]
 ·exact this
section
variable {S:AS}
end
section
variable {S:AS}
end
section
variable {S:AS}
end
def FV (S:AS) (v:AV) (F:List T):Prop:=v=.lst 3 true (F.map T.cells) \/ ∃id,v=.arr id 3 0 F.length none /\ S.heap id=some (.rows 3 (F.map T.cells)) /\ S.ro <=id /\ id < S.n
section
variable {S:AS} {v:AV} {F:List T}
theorem FV.reg (h:FV S v F):v.isReg=false:=by rcases h with rfl|⟨id,rfl,_⟩<;>rfl
theorem FV.isTs (h:FV S v F):je S v F:=by
 rcases h with rfl|⟨id,rfl,hh,_,hlt⟩
 ·exact zcp
 ·exact zmy (by have:=wD hh (Nat.zero_le _);rw [List.length_map]at this;exact this) hlt rfl
theorem FV.lt (h:FV S v F) {x:Nat} (hx:jf v x):x < S.n:=by
 rcases h with rfl|⟨id,rfl,_,_,h⟩
 ·obtain ⟨a,b,c,d,e⟩:=hx;cases e
 ·obtain ⟨a,b,c,d,e⟩:=hx;cases e;exact h
theorem FV.keep (h:FV S v F) {S':AS} (hr:S'.ro=S.ro) (hn:S.n <=S'.n) (hh:∀x,x < S.n -> jf v x -> S'.heap x=S.heap x):FV S' v F:=by
 rcases h with h|⟨id,rfl,h1,h2,h3⟩
 ·exact .inl h
 ·exact .inr ⟨id,rfl,(hh id h3 ⟨_,_,_,_,rfl⟩).trans h1,by rw [hr];exact h2,Nat.lt_of_lt_of_le h3 hn⟩
theorem FV.app (h:FV S v F) (hro:S.ro <=S.n) {ys:List T} (hy:ys≠[]) (hb:F.length+ys.length <=1000):
 ∃v' S',(∀d rg,za (.append 3 48) d rg S [v,.lst 3 true (ys.map T.cells)]=some (v',none,S')) /\ FV S' v' (F++ys) /\ v'.isReg=false /\ Chg S S' (jf v) (jf v'):=by
 have hrw:zv 3 S (.lst 3 true (ys.map T.cells))=some (ys.map T.cells):=by simp [zv]
 have hye:(ys.map T.cells).isEmpty=false:=by cases ys with|nil=>exact absurd rfl hy|cons _ _=>rfl
 rcases h with rfl|⟨id,rfl,h1,h2,h3⟩
 ·refine ⟨.arr S.n 3 0 (F.length+ys.length) none,S.new (.rows 3 ((F++ys).map T.cells)),fun d rg=>?_,.inr ⟨S.n,by rw [List.length_append],jw,hro,Nat.lt_succ_self _⟩,rfl,rfl,Nat.le_succ _,fun x hx hv=>⟨if_neg (by omega),?_⟩⟩
  ·simp only [za,hrw,Option.bind_some,jd,hye,Bool.false_eq_true,if_false,List.length_map];rw [if_pos (by simp;omega),List.map_append];rfl
  ·rintro ⟨a,b,c,d,e⟩;cases e;omega
 ·refine ⟨.arr S.n 3 0 (F.length+ys.length) none,(S.set id none).new (.rows 3 ((F++ys).map T.cells)),fun d rg=>?_,.inr ⟨S.n,by rw [List.length_append],if_pos rfl,hro,Nat.lt_succ_self _⟩,rfl,rfl,Nat.le_succ _,fun x hx hv=>⟨?_,?_⟩⟩
  ·have hy1:1 <=ys.length:=List.length_pos_iff.2 hy;have htk:(F.map T.cells).take F.length=F.map T.cells:=by rw [List.take_of_length_le (by simp)]
   simp only [za,hrw,Option.bind_some,jd,hye,Bool.false_eq_true,if_false,h1,Nat.zero_add,List.length_map];rw [if_neg (by simp;omega),if_neg (by omega),if_pos ⟨trivial,by omega⟩,htk,List.map_append];rfl
  ·show (if x=S.n then _ else (if x=id then none else S.heap x))=_;rw [if_neg (by omega),if_neg (fun e=>hv ⟨_,_,_,_,by rw [e]⟩)]
  ·rintro ⟨a,b,c,d,e⟩;cases e;omega
theorem zCq {s:ByteArray}:(zbr s 20).size <=20:=by unfold zbr;rw [ByteArray.size_extract];omega
theorem zCh {st:List ByteArray} {s:T} (hv:FV S v F) (ha:∀U,ziy st F U s) (hu:UOk (uni F s)) (hs:∀t∈F++[yj,ze zQ,ze yB,s,y5 (ze zQ) naB],t.sb) (hl:F.length <=100):∃t:T,call 144 [v,.agg (ze zQ).cells] S=some (.tup [.agg t.cells,.b false],S):=
 zD8 hv.isTs hu (fun t ht=>zcC (List.mem_append.2 (.inl ht))) (zcC (by simp)) (by omega) (fun t ht _ u hu'=>zya hs t ht u hu') (ha _).test
theorem zF6 {st:List ByteArray} {s t:T} (hv:FV S v F) (ha:∀U,ziy st F U s) (hu:UOk (uni F s)) (hl:F.length <=100) (ht:t∈[ze zQ,ze yB,yj,s,y5 (ze zQ) naB]):call 129 [v,.agg t.cells] S=some (.b false,S):=by
 refine ztn hv.isTs hu (fun t ht=>zcC (List.mem_append.2 (.inl ht))) (by omega) (hu.tidy t (zcC (List.mem_append.2 (.inr ?_)))) ((ha _).no t ht);simp only [List.mem_cons,List.not_mem_nil,or_false]at ht ⊢;rcases ht with h|h|h|h|h<;>simp [h]
theorem zjV {s t:T} {b:Bool} (hv:FV S v (F++[yj])) (hu:UOk (uni F s)) (hl:F.length <=100) (ht:t∈[ze zQ,ze yB,s]) (hb:∀L,jP (F++[yj]) (uni F s) L -> mkP L t=b):call 129 [v,.agg t.cells] S=some (.sc (.bool b),S):=by
 refine ztn hv.isTs hu (fun t ht=>zcC ?_) (by simp;omega) (hu.tidy t (zcC (List.mem_append.2 (.inr ?_)))) hb
 ·rcases List.mem_append.1 ht with h|h
  ·exact List.mem_append.2 (.inl h)
  ·rw [List.mem_singleton.1 h];simp
 ·simp only [List.mem_cons,List.not_mem_nil,or_false]at ht ⊢;rcases ht with h|h|h<;>simp [h]
theorem Pr.cv {a:Nat} {c:Cl} {mv:AV} {k:Nat} {L:Loc} {K:Kd} {b i:Nat} {st:List ByteArray} {m:T} (h:Pr S a c mv k L K [] b) (hb:b <=800) (hs:Cv st i c K m F) (hi:i < st.length) (hl:st.length <=3):
 ∃S1 S2 r c' m' mv' L' K',call 137 [.ptr k 0 0,.agg m.cells,.i 0] S=some (.agg (T.cells r),S1) /\ call 141 [.ptr a 0 0,.agg r.cells,.i 0,.agg (ze xxB).cells] S1=some (.tup [.agg (T.cells m'),.i 0],S2) /\
  Pr S2 a c' mv' k L' K' [] (b+4) /\ Cv st (i+1) c' K' m' (F++[r,m']) /\ Chg S S2 (Pr.own a mv k L) (Pr.own a mv' k L'):=by
 have gk:c.key=K.u.key:=hs.fq.keys;have gs:c.seed=K.u.seed:=hs.seed;have hcv:=hs.step hi gk gs hl;obtain ⟨rd,hiss,_⟩:=hs.sti.step (x:=ze xxB) hi (now:=0) (by omega) (by omega) gk gs (by have:=h.ks.n;omega) zdY;obtain ⟨S1,S2,mv',L',R',d1,d2,p,is,G⟩:=h.round (by omega) rd.mlo (now:=0) (by omega) ze4 rd.rlo;rw [rd.e]at d2;rw [hiss]at is;rw [show R'=[] from is]at p;exact ⟨S1,S2,_,_,_,mv',L',_,d1,d2,p,hcv,G⟩
theorem Pr.cvl {a:Nat} {c:Cl} {mv:AV} {k:Nat} {L:Loc} {K:Kd} {b i:Nat} {st:List ByteArray} {m:T} (h:Pr S a c mv k L K [] b) (hb:b <=800) (hs:Cv st i c K m F) (hi:i=st.length):
 ∃S1 S2 c' mv' L' K' R',call 137 [.ptr k 0 0,.agg m.cells,.i 0] S=some (.agg (ja c K K.n c.base st).cells,S1) /\ call 141 [.ptr a 0 0,.agg (ja c K K.n c.base st).cells,.i 0,.agg (ze xxB).cells] S1=some (.tup [.agg zi.cells,.i 0],S2) /\
  Pr S2 a c' mv' k L' K' R' (b+4) /\ c'.ended=true /\ c'.session=zD (K.n+1) /\ Chg S S2 (Pr.own a mv k L) (Pr.own a mv' k L'):=by
 have gk:c.key=K.u.key:=hs.fq.keys;have gs:c.seed=K.u.seed:=hs.seed;have hr:=hs.last hi gk gs;obtain ⟨rd,hiss,ht,_⟩:=hs.sti.last (x:=ze xxB) hi (now:=0) (by omega) gk gs (by have:=h.ks.n;omega);obtain ⟨S1,S2,mv',L',R',d1,d2,p,is,G⟩:=h.round (by omega) rd.mlo (now:=0) (by omega) ze4 rd.rlo;rw [ht]at d2 p;rw [hr]at d1 d2;exact ⟨S1,S2,_,mv',L',_,R',d1,d2,p,rfl,rfl,G⟩
end
section
variable {S:AS}
def zcm:List Nat:=[4,12,13,14,53,54,55,56,57,58,59,60,61,62,63,64,65,66,67,68,69,70,71,72,73,74,75,76,77]
def zai:List Nat:=[4,21,104,105,106,107,108,109,110]
def zqk (s:T):List T:=[ze zQ,ze yB,yj,s,y5 (ze zQ) naB]
theorem Chg.away {S S':AS} {o o' p:Nat -> Prop} (h:Chg S S' o o') (hp:∀x,p x -> x < S.n) (hd:∀x,p x -> ¬o x):∀x,p x -> ¬o' x:=fun x hx=>(h.2.2 x (hp x hx) (hd x hx)).2
theorem cv0 {j:Nat} {no:ByteArray} (hno:no≠⟨#[]⟩ /\ no.size <=700):Cv (yk j) 0 ((c0 (ze zQ) (ze yB)).start no (ze jn)) (kd0 (yk j)) (((c0 (ze zQ) (ze yB)).start no (ze jn)).says zi zi) [((c0 (ze zQ) (ze yB)).start no (ze jn)).says zi zi]:=by
 have hs:=zkH (K:=kd0 (yk j)) (j:=j) (t0:=0) zjN zc6 zg1 hno zkN;have hz:Tz ((c0 (ze zQ) (ze yB)).start no (ze jn)) (kd0 (yk j)):=by
  rcases hs with ⟨_,nx,rest,hI,_⟩|⟨_,_,_,_,_,h⟩
  ·exact hI.tz
  ·omega
 exact ⟨hs,⟨rfl,rfl,rfl,rfl,rfl,rfl,rfl,rfl,rfl⟩,hz,rfl,fun t ht=>by rw [List.mem_singleton.1 ht];exact .first,.first,by simp,rfl,⟨Int.le_refl _,Int.le_refl _⟩,fun h=>by omega⟩
theorem zAX {l:List T} {i:Nat} {t:T} (h:l[i]?=some t):pev (.iaddr 3) [.lst 3 true (l.map T.cells),.sc (.int .i64 (i:Int))]=some (.iptr t.cells):=by
 rw [zcS (by omega)];simp [h]
set_option maxHeartbeats 32000000 in
set_option maxRecDepth 100000 in
theorem zv7 {n:Int} {nonce:ByteArray} (hS:S.ro <=S.n):Tru (call 31 [.sc (.int .i64 n),.sc (.string nonce)] S):=by
 rw [ym a31 (by simp) rfl];have e131:=fun S=>@zAi S;have e134:=fun S=>@zqn S n;obtain ⟨j,hj⟩:∃j,j=(n % 8).toNat:=⟨_,rfl⟩;rw [<- hj]at e134;obtain ⟨S1,S2,bp,k,L,d1,d2,p,_⟩:=beg hS (j:=j);have hcz:=@zCq nonce;have hns:((⟨#[110]⟩:ByteArray)++zbr nonce 20).size <=21:=by rw [ByteArray.size_append];have:(⟨#[110]⟩:ByteArray).size=1:=rfl;omega
 have hadd:pev (.bin .add) [.s ⟨#[110]⟩,.sc (.string (zbr nonce 20))]=some (.sc (.string (⟨#[110]⟩++zbr nonce 20))):=yS (by have:(⟨#[110]⟩:ByteArray).size=1:=rfl;omega);have hne:(⟨#[110]⟩:ByteArray)++zbr nonce 20≠⟨#[]⟩:=kT (by show 1≠0;omega);have hcut:=@zBF nonce 20 (by omega);generalize zbr nonce 20=cut at *;generalize (⟨#[110]⟩:ByteArray)++cut=no at *;obtain ⟨S3,d3,p3,_⟩:=p.start (nonce:=no) (sub:=ze jn) (by omega);have hcv0:=@cv0 j no ⟨hne,by omega⟩;have e140:=fun S s=>@zeU S s;generalize ((c0 (ze zQ) (ze yB)).start no (ze jn)).says zi zi=m0 at *;generalize (c0 (ze zQ) (ze yB)).start no (ze jn)=cc at *;obtain ⟨hl1,hl3,him,_⟩:=@zeu j;generalize kd0 (yk j)=KK at *;generalize yk j=st at *;unfold jn at d3;simp only [f31];simp [zsB,e131,d1,e134,d2,e140,hcut,hadd,d3,zw];refine ko (α:=Nat) (R:=fun _ r=>Tru r) (fun i e rg S'=>i <=st.length+1 /\ NQ zcm [12,13] e /\ NQ zai [21] e /\ e 0=.sc (.int .i64 n) /\ e 6=.ptr S.n 0 0 /\ e 8=.ptr k 0 0 /\ e 9=.reg 9 0 /\ e 11=.sc (.int .i64 (i:Nat)) /\ rg 15=none /\ rg 18=none /\ rg 21=none /\
  ((i <=st.length /\ ∃c mv L K m b F,Pr S' S.n c mv k L K [] b /\ b <=10+4 * i /\ Cv st i c K m F /\ rg 9=some m.cells /\ FV S' (e 10) F /\ ∀x,jf (e 10) x -> ¬Pr.own S.n mv k L x) \/
   (i=st.length+1 /\ ∃c mv L K R b F s,Pr S' S.n c mv k L K R b /\ c.ended=true /\ c.session=s /\ FV S' (e 10) F /\ F.length <=100 /\ (∀U,ziy st F U s) /\ UOk (uni F s) /\ (∀t∈F++[yj,ze zQ,ze yB,s,y5 (ze zQ) naB],t.sb) /\ ∃r9,rg 9=some r9))) (fun i=>st.length+1 - i) (fun _ _ _ _ h=>h.2.1) ?_ 0 _ _ _ ?_
 rotate_left
 ·refine ⟨by omega,?_,?_,by simp,by simp,by simp,by simp,by simp,by simp,by simp,by simp,.inl ⟨by omega,cc,_,L,KK,m0,10,[m0],p3,by omega,hcv0,by simp,.inl (by simp),?_⟩⟩
  ·repeat (first|exact vx rfl|refine yh ?_ (by simp [zcm])|refine zbd ?_)
  ·repeat (first|exact vx rfl|refine yh ?_ (by simp [zai])|refine zbd ?_)
  ·intro x hx;obtain ⟨a,b,c,d,e⟩:=hx;simp at e
 intro kk hkk i e rg S' ⟨hi,hq,hq2,g0,g6,g8,g9,g11,r15,r18,r21,hst⟩ ih;have w2:IntKind.i64.wrap ((i:Int)+1)=((i+1:Nat):Int):=w64 (by omega);rcases hst with ⟨hle,c,mv,L',K,m,b,F,p,hb,hs,gr,hv,hvo⟩|⟨hie,c,mv,L',K,R,b,F,s,p,hen,hss,hv,hFl,hask,hun,hsb,r9,gr⟩
 ·have hc:(i:Int) <=(st.length:Int):=by omega
  have hFl:=hs.len;by_cases hlt:i < st.length
  ·obtain ⟨S4,S5,r,c',m',mv',L'',K',q1,q2,q3,q4,G⟩:=p.cv (by omega) hs hlt hl3;have hv5:FV S5 (e 10) F:=hv.keep G.1 G.2.1 fun x hx ha=>(G.2.2 x hx (hvo x ha)).1;have hvo5:=G.away (p:=jf (e 10)) (fun x hx=>hv.lt hx) hvo;obtain ⟨v',S6,ap,hv6,vr,G6⟩:=hv5.app q3.hS (ys:=[r,m']) (by simp) (by simp;omega);have hown6:∀x,Pr.own S.n mv' k L'' x -> ¬jf (e 10) x:=fun x hx ha=>hvo5 x ha hx;have c6:yq S6 S.n c' mv':=q3.cl.keep G6.1 G6.2.1 fun x hx ho=>(G6.2.2 x hx (hown6 x (.inl ho))).1;have k6:yA S6 k L'' K' []:=q3.kd.keep G6.1 G6.2.1 fun x hx ho=>(G6.2.2 x hx (hown6 x (.inr ho))).1;have p6:Pr S6 S.n c' mv' k L'' K' [] (b+4):=⟨c6,k6,q3.dj,q3.cs,q3.ks,q3.r⟩;have hlt6:∀x,Pr.own S.n mv' k L'' x -> x < S5.n:=fun x hx=>hx.elim (fun h=>q3.cl.own_lt h) (fun h=>q3.kd.own_lt h);have hvo6:∀x,jf v' x -> ¬Pr.own S.n mv' k L'' x:=fun x ha hx=>G6.away hlt6 hown6 x hx ha;have ap:∀d rg,za (.append 3 48) d rg S5 [e 10,.lst 3 true [r.cells,m'.cells]]=some (v',none,S6):=ap;have ev:=hv.reg;unfold xxB at q2;simp [zcm,zjy,g0,g6,g8,g9,g11,gr,e134,hle,hc,q1,e140,q2,ap,ev,vr,w2,zw];refine ih (i+1) _ _ _ (by omega) (fun _ h=>h) ⟨by omega,?_,?_,by simp [g0],by simp [g6],by simp [g8],by simp [g9],by simp,by simp [r15],by simp [r18],by simp [r21],.inl ⟨by omega,c',mv',L'',K',m',b+4,F++[r,m'],p6,by omega,q4,by simp,by simpa using hv6,by simpa using hvo6⟩⟩
   ·repeat (first|exact hq|refine yh ?_ (by simp [zcm,vr,ev])|refine zbd ?_)
   ·repeat (first|exact hq2|refine yh ?_ (by simp [zai,vr,ev])|refine zbd ?_)
  ·have hieq:i=st.length:=by omega
   obtain ⟨S4,S5,c',mv',L'',K',R',q1,q2,q3,q4,q5,G⟩:=p.cvl (by omega) hs hieq;have hv5:FV S5 (e 10) F:=hv.keep G.1 G.2.1 fun x hx ha=>(G.2.2 x hx (hvo x ha)).1;have hvo5:=G.away (p:=jf (e 10)) (fun x hx=>hv.lt hx) hvo;obtain ⟨v',S6,ap,hv6,vr,G6⟩:=hv5.app q3.hS (ys:=[ja c K K.n c.base st,zi]) (by simp) (by simp;omega);have hown6:∀x,Pr.own S.n mv' k L'' x -> ¬jf (e 10) x:=fun x hx ha=>hvo5 x ha hx;have c6:yq S6 S.n c' mv':=q3.cl.keep G6.1 G6.2.1 fun x hx ho=>(G6.2.2 x hx (hown6 x (.inl ho))).1;have k6:yA S6 k L'' K' R':=q3.kd.keep G6.1 G6.2.1 fun x hx ho=>(G6.2.2 x hx (hown6 x (.inr ho))).1;have p6:Pr S6 S.n c' mv' k L'' K' R' (b+4):=⟨c6,k6,q3.dj,q3.cs,q3.ks,q3.r⟩;have ap:∀d rg,za (.append 3 48) d rg S5 [e 10,.lst 3 true [(ja c K K.n c.base st).cells,zi.cells]]=some (v',none,S6):=ap;have hask:=hs.ask hieq (by omega) hl3;obtain ⟨hsb,hun⟩:=hs.uni hieq (by omega) hl3 him;generalize ja c K K.n c.base st=lt at *;have ev:=hv.reg;unfold xxB at q2;simp [zcm,zjy,g0,g6,g8,g9,g11,gr,e134,hle,hc,q1,e140,q2,ap,ev,vr,w2,zw];refine ih (i+1) _ _ _ (by omega) (fun _ h=>h) ⟨by omega,?_,?_,by simp [g0],by simp [g6],by simp [g8],by simp [g9],by simp,by simp [r15],by simp [r18],by simp [r21],.inr ⟨by omega,c',mv',L'',K',R',b+4,F++[lt,zi],_,p6,q4,q5,by simpa using hv6,by simp;omega,hask,hun,hsb,_,by simp;rfl⟩⟩
   ·repeat (first|exact hq|refine yh ?_ (by simp [zcm,vr,ev])|refine zbd ?_)
   ·repeat (first|exact hq2|refine yh ?_ (by simp [zai,vr,ev])|refine zbd ?_)
 ·have hc:¬(i:Int) <=(st.length:Int):=by omega
  have hc':¬i <=st.length:=by omega
  have e104:=zrE p.cl p.cs.z3;rw [hen,if_pos rfl,hss]at e104;obtain ⟨tt,e144⟩:=zCh hv hask hun hsb hFl;unfold zQ at e144;have e145:=fun S=>@zlY S (ze zQ) naB (by show 1 <=_;omega);unfold zQ naB at e145;have vr:=hv.reg;simp [zcm,zjy,g0,g6,g8,g9,g11,gr,e134,hc,hc',w2];rw [hkk];clear hkk ih;simp [g0,g6,g8,g9,gr,r15,r18,e104,e140,e144,e145,zw,vr];have hts:∀(t:T),t∈zqk s -> call 129 [e 10,.agg t.cells] S'=some (.b false,S'):=fun t ht=>zF6 hv hask hun hFl ht;obtain ⟨ts,hts'⟩:∃ts,ts=zqk s:=⟨_,rfl⟩;have hlist:[(ze ⟨#[112,97,115,115,119,111,114,100,32,97]⟩).cells,(ze ⟨#[115,101,101,100,32,97]⟩).cells,(ze ⟨#[104,111,115,116]⟩).cells,s.cells,(y5 (ze ⟨#[112,97,115,115,119,111,114,100,32,97]⟩) ⟨#[97]⟩).cells]=ts.map T.cells:=by rw [hts'];rfl
  rw [hlist];have hts5:ts.length=5:=by rw [hts'];rfl
  rw [<- hts']at hts;refine ko (α:=Nat) (R:=fun _ r=>Tru r) (fun i e' rg' S''=>i <=5 /\ S''=S' /\ NQ zai [21] e' /\ e' 0=.sc (.int .i64 n) /\ e' 10=e 10 /\ e' 15=.reg 15 0 /\ rg' 15=some s.cells /\ e' 101=.lst 3 true (ts.map T.cells) /\ e' 102=.i 5 /\ e' 103=.sc (.int .i64 (i:Nat))) (fun i=>5 - i) (fun _ _ _ _ h=>h.2.2.1) ?_ 0 _ _ _ ?_;rotate_left
  ·refine ⟨by omega,rfl,?_,by simp [g0],by simp,by simp,by simp,by simp,by simp,by simp⟩
   repeat (first|exact hq2|refine yh ?_ (by simp [zai,vr])|refine zbd ?_)
  intro kk hkk i e' rg' S'' ⟨hi,hS'',hq2,h0,h10,h15,r15,h101,h102,h103⟩ ih;subst hS'';by_cases hc:i < 5
  ·obtain ⟨t,ht⟩:=jK (l:=ts) (i:=i) (by omega);have e129:=hts t (List.mem_of_getElem? ht);have hat:=zAX ht;have hcI:(i:Int) < 5:=by omega
   have w2:IntKind.i64.wrap ((i:Int)+1)=((i+1:Nat):Int):=w64 (by omega);simp [zai,zmH,h0,h10,h15,r15,h101,h102,h103,hcI,hat,e129,w2,vr,zw];refine ih (i+1) _ _ _ (by omega) (fun _ h=>h) ⟨by omega,rfl,?_,by simp [h0],by simp [h10],by simp [h15],by simp [r15],by simp [h101],by simp [h102],by simp⟩
   repeat (first|exact hq2|refine yh ?_ (by simp [zai,vr])|refine zbd ?_)
  ·have hcI:¬(i:Int) < 5:=by omega
   obtain ⟨v',S6,ap,hv6,vr',G6⟩:=hv.app p.hS (ys:=[yj]) (by simp) (by simp;omega);have ap:∀d rg,za (.append 3 48) d rg S'' [e 10,.lst 3 true [(ze ⟨#[104,111,115,116]⟩).cells]]=some (v',none,S6):=ap;have a1:=zjV (t:=s) hv6 hun hFl (by simp) (hask _).ses;have a2:=zjV (t:=ze zQ) hv6 hun hFl (by simp) (hask _).pw;have a3:=zjV (t:=ze yB) hv6 hun hFl (by simp) (hask _).sd;unfold zQ at a2;unfold yB at a3;obtain ⟨nx,hnx⟩:∃nx,st[st.length - 1]?=some nx:=⟨st[st.length - 1],by simp [show st.length - 1 < st.length by omega]⟩;have hlast:st.getLast?=some nx:=by rw [List.getLast?_eq_getElem?];exact hnx
   rw [hlast]at a1;have hat:=zaV hnx;have w3:IntKind.i64.wrap ((st.length:Int) - 1)=((st.length - 1:Nat):Int):=by rw [w64 (by omega)];omega
   simp [zai,zmH,h0,h10,h15,r15,h101,h102,h103,hcI];rw [hkk];by_cases ho:nx=zG
   ·rw [ho,decide_eq_true rfl]at a1;rw [ho]at hat;unfold zG at hat;simp [h0,h10,h15,r15,e140,ap,vr,vr',e134,w3,hat,a1,a2,a3]
   ·have ho':decide (some nx=some zG)=false:=decide_eq_false (by simpa using ho);rw [ho']at a1;have ho2:(nx=⟨#[111,116,112]⟩)=False:=eq_false ho;simp [h0,h10,h15,r15,e140,ap,vr,vr',e134,w3,hat,a1,a2,a3,ho2]
end
end Abs
