/- Testable, at the machine. -/
import Derived.Test.YthcobbfffjfboaaGreatDoorG6
import Derived.Test.YthcobbfffjfboaaGreatDoorG5
import Derived.Test.YthcobbfffjfboaaGreatDoorG2
import Derived.Test.YthcobbfffjfboaaGreatDoorG3
set_option linter.unusedVariables false
set_option linter.unusedSimpArgs false
set_option linter.unusedSectionVars false
namespace Abs
open Go
def fw (c:VC) (k:Nat):AV:=.fn k [] [vcV c]
def TW (c:VC):List (Value×AV):=[(.int .i64 4,fw c 358),(.int .i64 5,fw c 356),(.int .i64 6,fw c 356),(.int .i64 7,fw c 356),(.int .i64 8,fw c 356),(.int .i64 9,fw c 359),(.int .i64 10,fw c 361)]
section
variable {S:AS} {c:VC}
inductive TstR (c:VC) (t:T) (b:Bool):Prop
 |no (h:b=false) (lk:∀(S:AS) (w:Nat),S.heap w=some (.map (TW c))→∀d rg,opev (.lookup false (.sc .nilFunc) false) d rg S [.mp w,.sc (.int .i64 t.kind)]=some (.sc .nilFunc,none,S))
 |yes (k:Nat) (lk:∀(S:AS) (w:Nat),S.heap w=some (.map (TW c))→∀d rg,opev (.lookup false (.sc .nilFunc) false) d rg S [.mp w,.sc (.int .i64 t.kind)]=some (fw c k,none,S)) (h:TsOk c k t b)
end
section
variable {S:AS}
end
section
variable {S:AS}
end
theorem share_bulk {a b:T}:(tShare a b).bulk=a.bulk+b.bulk+4:=by
 unfold tShare;split<;>(rw [mk_bulk,n0,bulkL_cons,bulkL_cons,bulkL_nil];omega)
theorem mask_bulk {a b:T}:(tMask a b).bulk=a.bulk+b.bulk+4:=by unfold tMask;rw [mk_bulk,n0,bulkL_cons,bulkL_cons,bulkL_nil];omega
section
variable {S:AS}
end
theorem word_ne {s:ByteArray}:eqB s≠⟨#[]⟩:=by unfold eqB;exact app_nonempty (by show 1≠0;omega)
theorem eqB_size {s:ByteArray}:(eqB s).size=s.size+1:=by
 unfold eqB;rw [ByteArray.size_append]
 have:(⟨#[61]⟩:ByteArray).size=1:=rfl
 omega
section
variable {S:AS}
end
theorem inL_dec {L:List T} {t:T}:inL L t=decide (t∈L):=by
 by_cases h:t∈L
 ·rw [inL_iff.2 h];simp [h]
 ·rw [Bool.eq_false_iff.2 fun e=>h (inL_iff.1 e)];simp [h]
structure Hd where
 a:ByteArray
 b:ByteArray
 x:ByteArray
 y:ByteArray
 w:ByteArray
 u:T
 sh:T
namespace Hd
def A (h:Hd):T:=tAtom h.a
def B (h:Hd):T:=tData h.b
def W (h:Hd):T:=tAtom h.w
def mY (h:Hd):T:=tMsk (tAtom h.y) h.u
def mX (h:Hd):T:=tMsk (tAtom h.x) h.u
def key (h:Hd) (n:Int):T:=tUse (tHash (tPair [h.sh,tWd h.u,h.mY,h.mX,tHash h.B])) n
def fac (h:Hd):T:=tEnc (tUse (h.key 1) 60) (tPack facB [])
def off (h:Hd):T:=tPack spkB [h.mY]
def ans (h:Hd):T:=tPack spkB [h.mX,h.fac]
def Q1 (h:Hd):List T:=[h.B,h.off,h.ans,tData spkB,h.mY,h.mX,h.fac]
def Q2 (h:Hd):List T:=h.W::tPub (tAtom h.y)::tPub (tAtom h.x)::h.Q1
def ck (h:Hd):T:=tUse (tCk h.A h.u) 54
def en (h:Hd):T:=tEnc h.ck (tTime h.B 5)
def ch (h:Hd):T:=tPack chalB [h.en]
def Q3 (h:Hd):List T:=[h.B,h.ch,tData chalB,h.en]
structure ok (h:Hd):Prop where
 u:h.u=tKdf h.W ⟨#[108,111,110,103,32,110,97,109,101]⟩
 sh:h.sh=.mk 9 ⟨#[]⟩ [tAtom h.x,tAtom h.y]∨h.sh=.mk 9 ⟨#[]⟩ [tAtom h.y,tAtom h.x]
 wx:h.x≠h.w
 wy:h.y≠h.w
 wa:h.a≠h.w
end Hd
section
attribute [local simp] mkP mkPL shP inL_dec Hd.Q1 Hd.Q2 Hd.Q3 Hd.A Hd.W Hd.B Hd.off Hd.ans Hd.mY Hd.mX Hd.fac Hd.key Hd.ck Hd.en Hd.ch tAtom tData tPack tPair tMsk tMask tEnc tPub tHash tKdf tUse tWd tCk tJoin tTime
variable {h:Hd}
end
section
variable {h:Hd} {U L L1 L2:List T}
end
structure Fv.good (f:Fv):Prop where
 ak:f.ak.bb
 user:f.user.bb
 body:f.body.bb
 x:f.x.bb
 y:f.y.bb
 xy:ShOk f.x f.y
 yx:ShOk f.y f.x
 yy:ShOk f.y f.y
 ne:f.x≠f.y
section
variable {S:AS}
end
def T.sb (t:T):Prop:=t.tidy∧t.bulk≤1099511627770
structure Ti (t:T) (d b:Nat):Prop where
 s:t.rshp=true
 o:t.ord=true
 d:t.dp≤d
 b:t.bulk≤b
structure TiL (l:List T) (d b:Nat):Prop where
 s:∀t∈l,t.rshp=true
 o:∀t∈l,t.ord=true
 d:∀t∈l,t.dp≤d
 b:bulkL l≤b
theorem Ti.sb {t:T} {d b:Nat} (h:Ti t d b) (hd:d≤60) (hb:b≤1099511627770):t.sb:=⟨⟨T.right_iff.2 ⟨h.s,Nat.le_trans h.d hd,h.o⟩,by have:=h.b;omega⟩,by have:=h.b;omega⟩
theorem TiL.nil {d:Nat}:TiL [] d 0:=⟨by simp,by simp,by simp,by rw [bulkL_nil];exact Nat.le_refl _⟩
theorem TiL.cons {t:T} {l:List T} {d b d' b':Nat} (h:Ti t d' b) (h':TiL l d b') (hd:d'≤d):TiL (t::l) d (b+b'):=by
 refine ⟨fun u hu=>?_,fun u hu=>?_,fun u hu=>?_,by rw [bulkL_cons];have:=h.b;have:=h'.b;omega⟩<;>rcases List.mem_cons.1 hu with rfl|hu
 ·exact h.s
 ·exact h'.s u hu
 ·exact h.o
 ·exact h'.o u hu
 ·exact Nat.le_trans h.d hd
 ·exact h'.d u hu
theorem Ti.node {k:Int} {n:ByteArray} {l:List T} {d b m:Nat} (h1:(T.mk k n l).one=true) (hs:shareOk k l=true) (h:TiL l d b) (hm:n.size≤m):Ti (T.mk k n l) (d+1) (b+m+4) where
 s:=by rw [T.rshp_def,h1,Bool.true_and];exact rshpL_iff.2 h.s
 o:=by rw [T.ord_def,ordL_all,Bool.and_eq_true,List.all_eq_true];exact ⟨hs,h.o⟩
 d:=by rw [T.dp_def];have:dpL (T.mk k n l).kids≤d:=dpL_le h.d;omega
 b:=by rw [T.bulk];have:=h.b;omega
section
variable {t u:T} {n:ByteArray} {d d' b b' m:Nat} {l:List T}
theorem ti_atom (hn:n≠⟨#[]⟩) (hm:n.size≤m):Ti (tAtom n) 1 (m+4):=by
 have:=Ti.node (k:=2) (n:=n) (l:=[]) (d:=0) (by simp [T.one,knd,nmd,kdn,T.kind,T.name,T.kids,hn]) rfl TiL.nil hm
 rw [Nat.zero_add,Nat.zero_add]at this;exact this
theorem ti_data (hn:n≠⟨#[]⟩) (hm:n.size≤m):Ti (tData n) 1 (m+4):=by
 have:=Ti.node (k:=1) (n:=n) (l:=[]) (d:=0) (by simp [T.one,knd,nmd,kdn,T.kind,T.name,T.kids,hn]) rfl TiL.nil hm
 rw [Nat.zero_add,Nat.zero_add]at this;exact this
theorem ti_kdf (h:Ti t d b) (hn:n≠⟨#[]⟩) (hm:n.size≤m):Ti (tKdf t n) (d+1) (b+0+m+4):=
 Ti.node (b:=b+0) (m:=m) (k:=7) (by simp [T.one,knd,nmd,kdn,T.kind,T.name,T.kids,hn]) rfl (.cons h .nil (Nat.le_refl _)) hm
theorem ti_hash (h:Ti t d b):Ti (tHash t) (d+1) (b+0+0+4):=Ti.node (b:=b+0) (m:=0) (k:=6) (by simp [T.one,knd,nmd,kdn,T.kind,T.name,T.kids]) rfl (.cons h .nil (Nat.le_refl _)) (Nat.le_refl _)
theorem ti_pub (h:Ti t d b):Ti (tPub t) (d+1) (b+0+0+4):=Ti.node (b:=b+0) (m:=0) (k:=8) (by simp [T.one,knd,nmd,kdn,T.kind,T.name,T.kids]) rfl (.cons h .nil (Nat.le_refl _)) (Nat.le_refl _)
theorem ti_mask (h:Ti t d b) (h':Ti u d' b'):Ti (tMask t u) (max d d'+1) (b+(b'+0)+0+4):=
 Ti.node (b:=b+(b'+0)) (m:=0) (k:=10) (by simp [T.one,knd,nmd,kdn,T.kind,T.name,T.kids]) rfl (.cons h (.cons h' .nil (Nat.le_max_right _ _)) (Nat.le_max_left _ _)) (Nat.le_refl _)
theorem ti_enc (h:Ti t d b) (h':Ti u d' b'):Ti (tEnc t u) (max d d'+1) (b+(b'+0)+0+4):=
 Ti.node (b:=b+(b'+0)) (m:=0) (k:=4) (by simp [T.one,knd,nmd,kdn,T.kind,T.name,T.kids]) rfl (.cons h (.cons h' .nil (Nat.le_max_right _ _)) (Nat.le_max_left _ _)) (Nat.le_refl _)
theorem ti_pair (h:TiL l d b):Ti (tPair l) (d+1) (b+0+4):=Ti.node (b:=b) (m:=0) (k:=3) (by simp [T.one,knd,nmd,kdn,T.kind,T.name,T.kids]) rfl h (Nat.le_refl _)
theorem ti_pack (hn:n≠⟨#[]⟩) (hm:n.size≤m) (h:TiL l d b) (hd:1≤d):Ti (tPack n l) (d+1) (m+4+b+0+4):=ti_pair (.cons (ti_data hn hm) h hd)
theorem use_size {n:Int} (hn:inI n):((⟨#[117,115,101,32]⟩:ByteArray)++itoaB n).size≤24:=by
 rw [ByteArray.size_append]
 have h1:(⟨#[117,115,101,32]⟩:ByteArray).size=4:=rfl
 have:=itoa_sz hn
 omega
theorem ti_use {k:Int} (h:Ti t d b) (hk:inI k):Ti (tUse t k) (d+1) (b+0+24+4):=ti_kdf h (app_nonempty (by show 4≠0;omega)) (use_size hk)
end
theorem sLt_asymm {x y:ByteArray} (h:sLt x y=true):sLt y x=false:=by
 rw [sLt_iff,decide_eq_true_eq]at h
 rw [sLt_iff,decide_eq_false_iff_not]
 exact List.lt_asymm h
theorem ti_share {a b:T} {d m:Nat} (ha:Ti a d m) (hb:Ti b d m) (hta:a.txt=a.text) (htb:b.txt=b.text):Ti (tShare a b) (d+1) (m+(m+0)+0+4)∧(tShare a b=.mk 9 ⟨#[]⟩ [a,b]∨tShare a b=.mk 9 ⟨#[]⟩ [b,a]):=by
 have one:∀u v:T,(T.mk 9 ⟨#[]⟩ [u,v]).one=true:=fun u v=>by simp [T.one,knd,nmd,kdn,T.kind,T.name,T.kids]
 unfold tShare
 split
 ·rename_i h
  rw [hta,htb]at h
  exact ⟨Ti.node (b:=m+(m+0)) (m:=0) (one _ _) (by simp [shareOk,sLt_asymm h]) (.cons hb (.cons ha .nil (Nat.le_refl _)) (Nat.le_refl _)) (Nat.le_refl _),.inr rfl⟩
 ·rename_i h
  rw [hta,htb,Bool.not_eq_true]at h
  exact ⟨Ti.node (b:=m+(m+0)) (m:=0) (one _ _) (by simp [shareOk,h]) (.cons ha (.cons hb .nil (Nat.le_refl _)) (Nat.le_refl _)) (Nat.le_refl _),.inl rfl⟩
structure Hd.sbs (h:Hd):Prop where
 A:h.A.sb
 B:h.B.sb
 W:h.W.sb
 off:h.off.sb
 ans:h.ans.sb
 ch:h.ch.sb
 base:(h.key 0).sb
theorem itoa_lt {n:Int} (h0:0≤n) (h:n < 1000000000):(itoaB n).size≤18:=by
 obtain ⟨m,rfl⟩:=Int.eq_ofNat_of_zero_le h0
 rw [itoaB_nat]
 have h9:(10:Nat) ^ (8+1)=1000000000:=by decide
 have:=numB_le 8 m (by omega)
 omega
section
variable {S:AS}
end
theorem unp_kind {tag:ByteArray} {n:Int} {t:T} (ht:tag≠⟨#[]⟩) (h:t.kind≠3):unpT tag n t=none:=by
 unfold unpT
 rw [if_neg];rintro ⟨_,h2,_⟩
 rw [tagT_no (fun e=>h e.1)]at h2
 exact ht h2.symm
theorem opn_pack {tag:ByteArray} {n:Nat} {l:List T} (h:tag≠⟨#[]⟩) (hl:l.length=n):opnL tag n (tPack tag l,0)=(l,0):=by
 unfold opnL
 rw [if_pos rfl]
 simp only
 rw [unpT_pack h (by rw [hl])]
theorem sealD_seal {k:T} {u:Int} {tag:ByteArray} {n:Nat} {l:List T} (h:tag≠⟨#[]⟩) (hl:l.length=n):sealD k u (tSeal k u (tPack tag l)) tag n=(l,0):=by
 unfold sealD;rw [uns_seal,opn_pack h hl]
theorem ans_of {k t:T} {n:ByteArray}:ansOf k n (tAns k n t)=(t,0):=by
 unfold ansOf tAns
 rw [sealD_seal (n:=2) (by decide) rfl]
 show (if (tWord n).same (tWord n) then (t,(0:Int)) else (tZ,6))=_
 rw [T.same_self];rfl
theorem req_of {k b p c:T}:reqOf k b (tReq k b p c)=(p,c,0):=by
 unfold reqOf tReq
 rw [sealD_seal (n:=3) (by decide) rfl]
 show (if (tHash b).same (tHash b) then (p,c,(0:Int)) else (tZ,tZ,6))=_
 rw [T.same_self];rfl
theorem arm_of {kdc host sub:T}:armOf kdc (tWrap (tTick kdc host) host sub)=(tArm sub host,0):=by
 unfold armOf tWrap
 rw [unpT_pack (n:=2) (by decide) rfl]
 show armH (tSeal host 11 (tPack authB [sub])) (sealD kdc 2 (tTick kdc host) hostB 1)=_
 unfold tTick
 rw [sealD_seal (n:=1) (by decide) rfl]
 show armS host (sealD host 11 (tSeal host 11 (tPack authB [sub])) authB 1)=_
 rw [sealD_seal (n:=1) (by decide) rfl]
 rfl
theorem ask_of {a b c:T}:askOf (tAsk a b c)=some (a,b,c):=by
 unfold askOf tAsk
 rw [unpT_pack (n:=3) (by decide) rfl];rfl
theorem body_of {a b:ByteArray} (ha:a≠⟨#[]⟩) (hb:b≠⟨#[]⟩):bodyOf (tBody a b)=some (a,b):=by
 unfold bodyOf tBody
 rw [unpT_pack (n:=2) (by decide) rfl,Option.bind_some,bodyL_two,wordOf_word,wordOf_word]
 show (if a=⟨#[]⟩∨b=⟨#[]⟩ then none else some (a,b))=_
 rw [if_neg (by rintro (h|h);exact ha h;exact hb h)]
theorem isNone_pack {tag:ByteArray} {l:List T} (h:noneB≠tag):isNoneT (tPack tag l)=false:=by
 unfold isNoneT;rw [unpT_tag h];rfl
theorem isNone_kind {t:T} (h:t.kind≠3):isNoneT t=false:=by
 unfold isNoneT;rw [unp_kind (by decide) h];rfl
theorem refuse_kind {t:T} (h:t.kind≠3):refuseOf t=none:=by
 unfold refuseOf;rw [unp_kind (by decide) h];rfl
theorem refuse_tag {tag:ByteArray} {l:List T} (h:errB≠tag):refuseOf (tPack tag l)=none:=by
 unfold refuseOf;rw [unpT_tag h];rfl
section
variable {c:Cl} {K:Kd} {p:T} {now:Int}
structure Fz (c:Cl) (K:Kd):Prop where
 on:c.on=true
 arm:armOf K.key c.wrap=(c.ak,0)
 body:c.body=tBody c.name c.nonce
 nm:c.name≠⟨#[]⟩
 nn:c.nonce≠⟨#[]⟩
 un:K.u.name=c.name
 fl:K.u.fails=0
theorem opens_first (h:Fz c K):K.opens (c.says p tNone) now=(⟨c.ak,c.body,⟨c.name,c.nonce,[],tNone,0⟩,K.u,now⟩,p,0):=by
 unfold Kd.opens Cl.says
 rw [ask_of]
 show K.opB (tAsk c.body c.wrap (tReq c.ak c.body p tNone)) c.body c.wrap (tReq c.ak c.body p tNone) now (bodyOf c.body)=_
 generalize tAsk c.body c.wrap (tReq c.ak c.body p tNone)=m
 rw [show bodyOf c.body=some (c.name,c.nonce) by rw [h.body];exact body_of h.nm h.nn]
 show K.opA m c.body (tReq c.ak c.body p tNone) c.name c.nonce now (armOf K.key c.wrap)=_
 rw [h.arm]
 unfold Kd.opA
 rw [if_pos rfl,req_of]
 unfold Kd.opR
 rw [if_pos rfl,if_pos h.un,if_pos isNone_none]
 unfold Kd.opF
 rw [if_neg (by rw [h.fl];omega)]
theorem opens_next (h:Fz c K) {q:T} {ck:Ck} (hq:isNoneT q=false) (ho:openP K.cookies q now=(ck,0)) (h1:ck.client=c.name) (h2:ck.nonce=c.nonce) (h3:begR ck.done K.u.set=true):
 K.opens (c.says p q) now=(⟨c.ak,c.body,ck,K.u,now⟩,p,0):=by
 unfold Kd.opens Cl.says
 rw [ask_of]
 show K.opB (tAsk c.body c.wrap (tReq c.ak c.body p q)) c.body c.wrap (tReq c.ak c.body p q) now (bodyOf c.body)=_
 generalize tAsk c.body c.wrap (tReq c.ak c.body p q)=m
 rw [show bodyOf c.body=some (c.name,c.nonce) by rw [h.body];exact body_of h.nm h.nn]
 show K.opA m c.body (tReq c.ak c.body p q) c.name c.nonce now (armOf K.key c.wrap)=_
 rw [h.arm]
 unfold Kd.opA
 rw [if_pos rfl,req_of]
 unfold Kd.opR
 rw [if_pos rfl,if_pos h.un,if_neg (by rw [hq];simp),ho]
 unfold Kd.opC
 rw [if_pos rfl,if_pos ⟨h1,h2,h3⟩]
 unfold Kd.opF
 rw [if_neg (by rw [h.fl];omega)]
theorem take_more (hon:c.on=true) {o k x:T}:c.take (tAns c.ak c.nonce (tPack moreB [o,k])) now x=c.takeD o k (c.does o now x):=by
 have hk:(tAns c.ak c.nonce (tPack moreB [o,k])).kind≠3:=by show (4:Int)≠3;decide
 unfold Cl.take
 rw [if_pos hon,refuse_kind hk]
 simp only
 rw [unp_kind (by decide) hk,ans_of,opn_pack (n:=2) (by decide) rfl]
 rfl
theorem take_rep (hon:c.on=true) {t e f x:T}:c.take (tPack repB [t,e,f]) now x=((c.ends t e f).1,tNone,(c.ends t e f).2):=by
 unfold Cl.take
 rw [if_pos hon,refuse_tag (by decide)]
 simp only
 rw [unpT_pack (n:=3) (by decide) rfl]
theorem ends_ok (hd:c.done=true) {s st:T} {t:T}:c.ends t (tktE st c.base s c.nonce t) (tAns c.ak c.nonce (tPack finB [st,tHash t]))=({c with session:=s,ended:=true,on:=false,z3:=false},0):=by
 unfold Cl.ends
 rw [if_pos hd,ans_of,opn_pack (n:=2) (by decide) rfl]
 show (if (tHash t).same (tHash t) then c.endL t (opnL encB 3 (unsT (tRep st c.base) 3 (tktE st c.base s c.nonce t))) else (c,6))=_
 rw [T.same_self,if_pos rfl]
 unfold tktE
 rw [uns_seal,opn_pack (n:=3) (by decide) rfl]
 show (if (tWord c.nonce).same (tWord c.nonce) && (tHash t).same (tHash t) then _ else _)=_
 rw [T.same_self,T.same_self];rfl
end
def tcode (s:ByteArray):UInt8:=if s=chalB then 57 else if s=otpB then 51 else 53
theorem text_code {tag:ByteArray} {l:List T} (h:isM tag):(tPack tag l).text.data[3]?=some (tcode tag):=by
 have ht:(tPack tag l).text=hdT 3 ⟨#[]⟩++⟨#[40]⟩++joinT (tData tag::l)++⟨#[41]⟩:=by
  rw [T.text_def];rfl
 have hd:(tData tag).text=hdT 1 tag:=by rw [T.text_def];rfl
 have hj:joinT (tData tag::l)=hdT 1 tag++commaT l:=by rw [joinT,hd]
 have h3:hdT 3 ⟨#[]⟩=⟨#[112]⟩:=by
  unfold hdT nameT;rw [if_pos rfl];rfl
 have key:∀(d:UInt8) (r:ByteArray),hdT 1 tag=⟨#[100,d]⟩++r→(tPack tag l).text.data[3]?=some d:=by
  intro d r hr
  rw [ht,hj,h3,hr]
  simp [ByteArray.data_append]
  rw [←Array.append_assoc,Array.getElem?_append_left (by simp)]
  rfl
 have hn:∀s:ByteArray,s≠⟨#[]⟩→hdT 1 s=⟨#[100]⟩++(numB s.size++⟨#[58]⟩++s):=by
  intro s hs
  unfold hdT nameT;rw [if_neg hs];rfl
 have one:∀(n:Nat) (d:UInt8) (s:ByteArray),s≠⟨#[]⟩→s.size=n→numB n=⟨#[d]⟩→hdT 1 s=⟨#[100,d]⟩++(⟨#[58]⟩++s):=by
  intro n d s hs hz hd
  rw [hn s hs,hz,hd]
  apply ba_data
  simp [ByteArray.data_append]
 rcases h with rfl|rfl|rfl
 ·exact key 57 _ (one 9 57 chalB (by decide) rfl (by unfold numB;rw [Lib.decDigits_one (by omega)];rfl))
 ·exact key 51 _ (one 3 51 otpB (by decide) rfl (by unfold numB;rw [Lib.decDigits_one (by omega)];rfl))
 ·exact key 53 _ (one 5 53 spkB (by decide) rfl (by unfold numB;rw [Lib.decDigits_one (by omega)];rfl))
theorem tcode_inj {a b:ByteArray} (ha:isM a) (hb:isM b) (h:tcode a=tcode b):a=b:=by
 rcases ha with rfl|rfl|rfl<;>rcases hb with rfl|rfl|rfl<;>first|rfl|(exfalso;revert h;decide)
def prf (c:Cl) (nx:ByteArray) (s x:T) (now:Int):T:=
 if nx=chalB then tChal c.ak c.key c.body now else if nx=otpB then tCode c.ak s (tOtp c.seed 2) else tPack spkB [tMsk x c.key,tFac x s c.key (tMsk s c.key) (tMsk x c.key) c.body]
def prB (c:Cl) (nx:ByteArray) (s x:T):T:=if nx=chalB then c.key else if nx=otpB then tUse c.ak 46 else xKey x s c.key (tMsk s c.key) (tMsk x c.key) c.body 0
theorem chal_otp:chalB≠otpB:=by decide
theorem chal_spk:chalB≠spkB:=by decide
theorem otp_spk:otpB≠spkB:=by decide
section
variable {c:Cl} {nx:ByteArray} {s x:T} {now:Int}
theorem prf_chal:prf c chalB s x now=tChal c.ak c.key c.body now:=if_pos rfl
theorem prf_otp:prf c otpB s x now=tCode c.ak s (tOtp c.seed 2):=by unfold prf;rw [if_neg chal_otp.symm,if_pos rfl]
theorem prf_spk:prf c spkB s x now=tPack spkB [tMsk x c.key,tFac x s c.key (tMsk s c.key) (tMsk x c.key) c.body]:=by unfold prf;rw [if_neg chal_spk.symm,if_neg otp_spk.symm]
theorem prB_chal:prB c chalB s x=c.key:=if_pos rfl
theorem prB_otp:prB c otpB s x=tUse c.ak 46:=by unfold prB;rw [if_neg chal_otp.symm,if_pos rfl]
theorem prB_spk:prB c spkB s x=xKey x s c.key (tMsk s c.key) (tMsk x c.key) c.body 0:=by unfold prB;rw [if_neg chal_spk.symm,if_neg otp_spk.symm]
theorem prf_pack (h:isM nx):∃l,prf c nx s x now=tPack nx l:=by
 rcases h with rfl|rfl|rfl
 ·exact ⟨_,prf_chal⟩
 ·exact ⟨_,prf_otp⟩
 ·exact ⟨_,prf_spk⟩
theorem prf_tag (h:isM nx):tagT (prf c nx s x now)=nx:=by obtain ⟨l,e⟩:=@prf_pack c nx s x now h;rw [e,tagT_pack]
theorem none_isM (h:isM nx):noneB≠nx:=by rcases h with rfl|rfl|rfl<;>decide
theorem prf_none (h:isM nx):isNoneT (prf c nx s x now)=false:=by obtain ⟨l,e⟩:=@prf_pack c nx s x now h;rw [e];exact isNone_pack (none_isM h)
def Cl.up (c:Cl) (nx:ByteArray):Cl:=if nx=otpB then {c with counter:=c.counter+1} else c
theorem off_tag {u:Us} (h:isM nx):tagT (offO u nx s)=nx:=by
 unfold offO
 rcases h with rfl|rfl|rfl
 ·rw [if_pos rfl,tagT_pack]
 ·rw [if_neg chal_otp.symm,if_neg otp_spk];unfold tOffer;rw [tagT_pack]
 ·rw [if_neg chal_spk.symm,if_pos rfl];unfold tPoint;rw [tagT_pack]
theorem does_off {u:Us} (h:isM nx) (hk:nx=spkB→u.key=c.key) (hc:nx=otpB→c.counter=2):c.does (offO u nx s) now x=(c.up nx,prf c nx s x now,prB c nx s x,0):=by
 unfold Cl.does
 rw [off_tag h]
 rcases h with rfl|rfl|rfl
 ·rw [if_pos rfl,prf_chal,prB_chal];unfold Cl.up;rw [if_neg chal_otp]
 ·rw [if_neg chal_otp.symm,if_pos rfl]
  have ho:offO u otpB s=tOffer s:=by unfold offO;rw [if_neg chal_otp.symm,if_neg otp_spk]
  rw [ho,ans_offer,hc rfl,if_pos rfl,prf_otp,prB_otp]
  unfold Cl.up;rw [if_pos rfl,hc rfl]
 ·rw [if_neg chal_spk.symm,if_neg otp_spk.symm,if_pos rfl]
  have ho:offO u spkB s=tPoint u.key s:=by unfold offO;rw [if_neg chal_spk.symm,if_pos rfl]
  rw [ho,ans_point,if_pos (hk rfl),prf_spk,prB_spk,hk rfl]
  unfold Cl.up;rw [if_neg otp_spk.symm]
theorem does_bad {u:Us} (hk:u.key≠c.key):c.does (offO u spkB s) now x=(c,tZ,tZ,6):=by
 unfold Cl.does
 rw [off_tag (.inr (.inr rfl)),if_neg chal_spk.symm,if_neg otp_spk.symm,if_pos rfl]
 have ho:offO u spkB s=tPoint u.key s:=by unfold offO;rw [if_neg chal_spk.symm,if_pos rfl]
 rw [ho,ans_point,if_neg hk]
end
def tok0:Tk:=⟨1,3,10,0,0,5⟩
def tok1:Tk:=⟨3,3,10,0,0,5⟩
theorem j2:inI 2:=by unfold inI;omega
theorem hits_same {sd:T}:hitsR tok0 sd (tOtp sd 2)=[2]:=by
 have hp:∀c:Int,0≤c→c≤100→(tOtp sd 2).same (tOtp sd c)=decide (c=2):=by
  intro c h0 h1
  by_cases h:c=2
  ·subst h;rw [T.same_self];rfl
  ·rw [same_ne (fun e=>h ((tOtp_inj j2 (by unfold inI;omega)).1 e).2.symm)];simp [h]
 have hN:hitN tok0=14:=by rfl
 have hM:hitsM tok0 sd (tOtp sd 2) 14=[2]:=by
  unfold hitsM
  have:(rng tok0.counter 14).filter (hitB tok0 sd (tOtp sd 2))=(rng tok0.counter 14).filter fun c=>decide (c=2):=by
   apply List.filter_congr
   intro c hc
   have h:=rng_mem.1 hc
   have h1:tok0.counter=1:=rfl
   rw [h1]at h
   unfold hitB
   rw [hp c (by omega) (by omega)]
   have:c≤tok0.counter+tok0.look+tok0.sync:=by show c≤1+3+10;omega
   simp [this]
  rw [this];rfl
 have hE:hitsE tok0 sd (tOtp sd 2)=[2]:=by
  unfold hitsE
  rw [if_neg (fun h=>by have:=h.1;revert this;decide),hN,hM]
 unfold hitsR
 rw [if_pos (by rfl),if_neg,hE]
 rintro ⟨_,h⟩
 rw [hp _ (by show (0:Int)≤0;omega) (by show (0:Int)≤100;omega)]at h
 revert h;decide
theorem acc_one:tok0.accept [2]=(tok1,2,0):=by rfl
theorem hitTR_code {ak n cd sd:T} {t:Tk}:hitTR ak n (tCode ak n cd) sd t=(hitsR t sd cd,0):=by
 unfold hitTR tCode
 rw [unpT_pack (n:=1) otpB_ne rfl]
 simp only
 rw [uns_seal]
 unfold hitUR
 simp only
 rw [if_pos trivial,unpT_pack (n:=2) codeB_ne rfl]
 simp only [hitLR]
 rw [T.same_self,if_pos rfl]
section
variable {c:Cl} {nx:ByteArray} {s x:T} {t0 now:Int} {ck:Ck} {u:Us}
theorem chk_good (h:isM nx) (hs:ck.secret=s) (hk:nx≠otpB→u.key=c.key) (ho:nx=otpB→c.seed=u.seed∧u.tok=tok0) (ht:0≤t0∧t0≤100000000) (hn:(t0 - now).natAbs≤5):
 ∃hits,chkR ⟨c.ak,c.body,ck,u,now⟩ (prf c nx s x t0) nx=(prB c nx s x,hits,0)∧(nx=otpB→hits=[2]):=by
 rcases h with rfl|rfl|rfl
 ·refine ⟨[],?_,fun e=>absurd e chal_otp⟩
  unfold chkR
  rw [if_neg chal_otp,if_neg chal_spk,prf_chal,prB_chal,chk_chal (by unfold inI;omega) (itoa_lt ht.1 (by omega)),if_pos ⟨rfl,(hk chal_otp).symm⟩,if_pos rfl,if_neg (by show ¬(t0 - now).natAbs > 5;omega),hk chal_otp]
 ·refine ⟨[2],?_,fun _=>rfl⟩
  unfold chkR
  rw [if_pos rfl,prf_otp,prB_otp]
  simp only
  rw [hs,hitTR_code,(ho rfl).2,(ho rfl).1,hits_same]
 ·refine ⟨[],?_,fun e=>absurd e otp_spk.symm⟩
  unfold chkR
  rw [if_neg otp_spk.symm,if_pos rfl,prf_spk,prB_spk]
  simp only
  rw [hs,hk otp_spk.symm,chk_point,if_pos rfl,T.same_self,if_pos rfl]
end
theorem Ti.up {t:T} {d b d' b':Nat} (h:Ti t d b) (hd:d≤d') (hb:b≤b'):Ti t d' b':=⟨h.s,h.o,Nat.le_trans h.d hd,Nat.le_trans h.b hb⟩
structure Tz (c:Cl) (K:Kd):Prop where
 a:Ti c.ak 6 4000
 k:Ti c.key 6 4000
 b:Ti c.body 6 4000
 d:Ti c.seed 6 4000
 u:Ti K.u.key 6 4000
 w:c.wrap.bulk≤4000
 ck:K.cookies.fit=true
 cb:K.cookies.bulk≤4000
 kb:K.key.bulk≤4000
 n:c.name.size≤1000
 m:c.nonce.size≤1000
def atT (s:T):Prop:=∃n:ByteArray,s=tAtom n∧n≠⟨#[]⟩∧n.size≤1000
theorem atT.ti {s:T} (h:atT s):Ti s 1 1004:=by obtain ⟨n,rfl,h1,h2⟩:=h;exact ti_atom h1 h2
theorem atT.none {s:T} (h:atT s):isNoneT s=false:=by obtain ⟨n,rfl,_,_⟩:=h;exact isNone_kind (by show (2:Int)≠3;decide)
theorem atT.fit {s:T} (h:atT s):s.fit=true:=by have:=h.ti;exact fit_iff.2 ⟨this.s,this.o,Nat.le_trans this.d (by omega)⟩
theorem draw_at {n:Int} (h:0≤n∧n≤1000000):atT (drawT n):=by
 have hit:=itoaB_le (n:=n) (by omega) (by omega)
 have hz:(kdB++itoaB n).size=4+(itoaB n).size:=by rw [ByteArray.size_append];rfl
 exact ⟨_,rfl,app_nonempty (by show 4≠0;omega),by omega⟩
theorem join_name {f:ByteArray} (hf:f.size≤90):((⟨#[106,111,105,110,32]⟩:ByteArray)++f)≠⟨#[]⟩∧((⟨#[106,111,105,110,32]⟩:ByteArray)++f).size≤95:=⟨app_nonempty (by show 5≠0;omega),by
 rw [ByteArray.size_append]
 have:(⟨#[106,111,105,110,32]⟩:ByteArray).size=5:=rfl
 omega⟩
theorem ti_join {a b:T} {f g:ByteArray} {m:Nat} (ha:Ti a 6 m) (hb:Ti b 6 m) (hf:f.size≤90) (hg:g.size≤90):Ti (tJoin a b f g) 9 (2 * m+1000):=by
 obtain ⟨j1,j2⟩:=join_name hf
 obtain ⟨j3,j4⟩:=join_name hg
 exact (ti_hash (ti_pair (d:=7) (.cons (ti_kdf ha j1 j2) (.cons (ti_kdf hb j3 j4) .nil (by omega)) (by omega)))).up (by omega) (by omega)
theorem otp_name:((⟨#[111,116,112,32]⟩:ByteArray)++itoaB 2)≠⟨#[]⟩∧((⟨#[111,116,112,32]⟩:ByteArray)++itoaB 2).size≤24:=⟨app_nonempty (by show 4≠0;omega),by
 rw [ByteArray.size_append]
 have h1:(⟨#[111,116,112,32]⟩:ByteArray).size=4:=rfl
 have:=itoa_sz j2
 omega⟩
section
variable {c:Cl} {K:Kd} {nx:ByteArray} {s x:T} {t0:Int}
theorem prf_ti (h:Tz c K) (hn:isM nx) (hs:nx≠chalB→atT s) (hx:atT x) (ht:inI t0):Ti (prf c nx s x t0) 40 200000:=by
 have i1:inI 1:=by unfold inI;omega
 have i45:inI 45:=by unfold inI;omega
 have i54:inI 54:=by unfold inI;omega
 have i60:inI 60:=by unfold inI;omega
 have tH:=ti_hash h.b
 rcases hn with rfl|rfl|rfl
 ·rw [prf_chal]
  have tN:Ti (tNum t0) 1 (21+4):=ti_data word_ne (by rw [eqB_size];have:=itoa_sz ht;omega)
  have tT:=ti_pack (n:=timeB) (m:=4) (d:=8) (by decide) (Nat.le_refl _) (.cons tN (.cons tH .nil (by omega)) (by omega)) (by omega)
  have tCK:=ti_use (ti_join (f:=armB) (g:=lonB) h.a h.k (by show 20≤90;omega) (by show 17≤90;omega)) i54
  exact (ti_pack (n:=chalB) (m:=9) (d:=30) (by decide) (Nat.le_refl _) (.cons (ti_enc tCK tT) .nil (by omega)) (by omega)).up (by omega) (by omega)
 ·rw [prf_otp]
  have tS:=(hs chal_otp.symm).ti
  have tO:=ti_kdf h.d otp_name.1 otp_name.2
  have tP:=ti_pack (n:=codeB) (m:=4) (d:=10) (by decide) (Nat.le_refl _) (.cons tS (.cons tO .nil (by omega)) (by omega)) (by omega)
  exact (ti_pack (n:=otpB) (m:=3) (d:=30) (by decide) (Nat.le_refl _) (.cons (ti_enc (ti_use h.a i45) tP) .nil (by omega)) (by omega)).up (by omega) (by omega)
 ·rw [prf_spk]
  have tS:=(hs chal_spk.symm).ti
  have tX:=hx.ti
  obtain ⟨tSh,_⟩:=ti_share tX tS (tX.sb (by omega) (by omega)).1.txt (tS.sb (by omega) (by omega)).1.txt
  have tWd':=ti_kdf (n:=⟨#[119,111,114,100]⟩) (m:=4) h.k (by decide) (Nat.le_refl _)
  have tmY:=ti_mask (ti_pub tS) tWd'
  have tmX:=ti_mask (ti_pub tX) tWd'
  have tP:=ti_hash (ti_pair (d:=10) (.cons tSh (.cons tWd' (.cons tmY (.cons tmX (.cons tH .nil (by omega)) (by omega)) (by omega)) (by omega)) (by omega)))
  have tK1:=ti_use (ti_use tP i1) i60
  have tF:=ti_enc tK1 (ti_pack (n:=facB) (m:=6) (d:=1) (by decide) (Nat.le_refl _) .nil (Nat.le_refl _))
  exact (ti_pack (n:=spkB) (m:=5) (d:=30) (by decide) (Nat.le_refl _) (.cons tmX (.cons tF .nil (by omega)) (by omega)) (by omega)).up (by omega) (by omega)
theorem prf_txt (h:Tz c K) (hn:isM nx) (hs:nx≠chalB→atT s) (hx:atT x) (ht:inI t0):(prf c nx s x t0).txt.data[3]?=some (tcode nx):=by
 have ti:=prf_ti h hn hs hx ht
 rw [(ti.sb (by omega) (by omega)).1.txt]
 obtain ⟨l,e⟩:=@prf_pack c nx s x t0 hn
 rw [e];exact text_code hn
theorem pack_bulk {n:ByteArray} {l:List T}:(tPack n l).bulk=n.size+bulkL l+8:=by unfold tPack;rw [pair_bulk,bulkL_cons,data_bulk];omega
theorem use_bulk {k:T} {n:Int} (hn:inI n):(tUse k n).bulk≤k.bulk+28:=by
 unfold tUse tKdf
 rw [mk_bulk,bulkL_cons,bulkL_nil]
 have:=use_size hn
 omega
theorem seal_bulkT {k t:T} {n:Int} (hn:inI n):(tSeal k n t).bulk≤k.bulk+t.bulk+32:=by
 unfold tSeal
 rw [enc_bulk]
 have:=use_bulk (k:=k) hn
 omega
theorem hashT_bulk {t:T}:(tHash t).bulk=t.bulk+4:=by
 unfold tHash;rw [mk_bulk,bulkL_cons,bulkL_nil,n0]
 try omega
theorem word_bulk {s:ByteArray}:(tWord s).bulk=s.size+5:=by
 unfold tWord;rw [mk_bulk,bulkL_nil,eqB_size];try omega
theorem says_bulk (h:Tz c K) {p q:T}:(c.says p q).bulk≤p.bulk+q.bulk+20000:=by
 have ha:=h.a.b
 have hb:=h.b.b
 have hw:=h.w
 have h1:=seal_bulkT (k:=c.ak) (t:=tPack fastB [tHash c.body,p,q]) (n:=51) i51
 rw [pack_bulk,bulkL_cons,bulkL_cons,bulkL_cons,bulkL_nil,hashT_bulk]at h1
 have z1:fastB.size=4:=rfl
 have z2:askB.size=6:=rfl
 show (tPack askB [c.body,c.wrap,tReq c.ak c.body p q]).bulk≤_
 rw [pack_bulk,bulkL_cons,bulkL_cons,bulkL_cons,bulkL_nil]
 show askB.size+(c.body.bulk+(c.wrap.bulk+((tSeal c.ak 51 (tPack fastB [tHash c.body,p,q])).bulk+0)))+8≤_
 omega
theorem ans_bulk (h:Tz c K) {t:T}:(tAns c.ak c.nonce t).bulk≤t.bulk+6000:=by
 have ha:=h.a.b
 have hm:=h.m
 have h1:=seal_bulkT (k:=c.ak) (t:=tPack answB [tWord c.nonce,t]) (n:=52) i52
 rw [pack_bulk,bulkL_cons,bulkL_cons,bulkL_nil,word_bulk]at h1
 have z1:answB.size=6:=rfl
 show (tSeal c.ak 52 (tPack answB [tWord c.nonce,t])).bulk≤_
 omega
theorem ck_bulk (h:Tz c K) {done:List ByteArray} (hd:doneB done≤1000) (hs:s.bulk≤1004) (ht:inI t0):(sealT K.cookies ⟨c.name,c.nonce,done,s,t0⟩).bulk≤20000:=by
 have h1:=seal_bulk (key:=K.cookies) (c:=⟨c.name,c.nonce,done,s,t0⟩) ht
 have:=h.cb
 have:=h.n
 have:=h.m
 simp only at h1
 omega
theorem ck_kind (h:Tz c K) {done:List ByteArray} (hs:s.fit=true):(sealT K.cookies ⟨c.name,c.nonce,done,s,t0⟩).kind=4:=by
 rw [seal_kind,h.ck,hs];rfl
end
theorem none_fit:tNone.fit=true:=by
 have h:Ti tNone 2 12:=(ti_pack (n:=noneB) (m:=4) (d:=1) (by decide) (Nat.le_refl _) .nil (Nat.le_refl _)).up (by omega) (by omega)
 exact fit_iff.2 ⟨h.s,h.o,Nat.le_trans h.d (by omega)⟩
def sOk (nx:ByteArray) (s:T):Prop:=if nx=chalB then s=tNone else atT s
theorem sOk.fit {nx:ByteArray} {s:T} (h:sOk nx s):s.fit=true:=by
 unfold sOk at h
 split at h
 ·rw [h];exact none_fit
 ·exact h.fit
theorem sOk.at {nx:ByteArray} {s:T} (h:sOk nx s) (hn:nx≠chalB):atT s:=by unfold sOk at h;rw [if_neg hn]at h;exact h
theorem sOk.bulk {nx:ByteArray} {s:T} (h:sOk nx s):s.bulk≤1004:=by
 unfold sOk at h
 split at h
 ·rw [h];show (tNone.bulk)≤_;decide
 ·exact h.ti.b
theorem sOk_off {K:Kd} {nx:ByteArray} (hn:0≤K.n∧K.n≤900000):sOk nx (K.offS nx):=by
 unfold sOk Kd.offS
 split
 ·rfl
 ·exact draw_at (by omega)
def CtOf (c:Cl) (l:List ByteArray):Prop:=(otpB∈l→c.counter=3)∧(otpB∉l→c.counter=2)
structure Mid (c:Cl) (K:Kd) (m:T) (done:List ByteArray) (nx:ByteArray) (rest:List ByteArray) (t0:Int):Prop where
 fz:Fz c K
 tz:Tz c K
 dn:c.done=true
 set:K.u.set=done++nx::rest
 im:∀d∈done++nx::rest,isM d
 nd:nx∉done∧nx∉rest∧∀d∈rest,d∉done
 ndr:rest.Nodup
 rm:K.room=16
 ca:∀e∈K.cache,∃d∈done,e.1.data[3]?=some (tcode d)
 cl:K.cache.length≤done.length
 ms:c.marks=(done++[nx]).map fun d=>(d,c.nonce)
 len:done.length+rest.length≤2
 tk:otpB∈nx::rest→K.u.tok=tok0
 ct:CtOf c (done++[nx])
 sp:nx=spkB→K.u.key=c.key
 ex:∃s x,m=c.says (prf c nx s x t0) (sealT K.cookies ⟨c.name,c.nonce,done,s,t0+100⟩)∧c.base=prB c nx s x∧sOk nx s∧atT x
 t:0≤t0∧t0≤10000000
def gud (c:Cl) (K:Kd) (d:ByteArray):Prop:=if d=otpB then c.seed=K.u.seed else c.key=K.u.key
theorem lookC_none {id:ByteArray}:∀{l:List (ByteArray×Int)},(∀e∈l,e.1≠id)→Rf.lookC id l=none
 |[],_=>rfl
 |p::l,h=>by
  rw [Rf.lookC,if_neg (h p (by simp)),lookC_none fun e he=>h e (by simp [he])]
theorem doneB_isM:∀{l:List ByteArray},(∀d∈l,isM d)→doneB l≤l.length * 14
 |[],_=>by simp [doneB]
 |s::l,h=>by
  have ih:=doneB_isM (l:=l) fun d hd=>h d (by simp [hd])
  have hz:s.size≤9:=by
   rcases h s (by simp) with rfl|rfl|rfl
   ·show 9≤9;omega
   ·show 3≤9;omega
   ·show 5≤9;omega
  rw [doneB,List.length_cons];omega
structure K1ok (K K1:Kd) (done:List ByteArray) (nx:ByteArray) (rest:List ByteArray):Prop where
 key:K1.key=K.key
 cookies:K1.cookies=K.cookies
 room:K1.room=16
 n:K1.n=K.n
 un:K1.u.name=K.u.name
 uk:K1.u.key=K.u.key
 us:K1.u.set=K.u.set
 ud:K1.u.seed=K.u.seed
 uf:K1.u.fails=0
 tk:otpB∈rest→K1.u.tok=tok0
 ca:∀e∈K1.cache,∃d∈done++[nx],e.1.data[3]?=some (tcode d)
 cl:K1.cache.length≤done.length+1
section
variable {c:Cl} {K:Kd} {m:T} {done rest:List ByteArray} {nx:ByteArray} {t0 now:Int}
theorem Mid.seen (h:Mid c K m done nx rest t0) (hn:now≤t0+100):∃s x,c.base=prB c nx s x∧sOk nx s∧atT x∧(now≤t0+100→K.req m now=K.reqC ⟨c.ak,c.body,⟨c.name,c.nonce,done,s,t0+100⟩,K.u,now⟩ (prf c nx s x t0) nx now (chkR ⟨c.ak,c.body,⟨c.name,c.nonce,done,s,t0+100⟩,K.u,now⟩ (prf c nx s x t0) nx))∧m.lo∧(prf c nx s x t0).txt.data[3]?=some (tcode nx):=by
 obtain ⟨s,x,hm,hb,hs,hx⟩:=h.ex
 have inx:isM nx:=h.im nx (by simp)
 have ht:=h.t
 refine ⟨s,x,hb,hs,hx,fun _=>?_,?_,prf_txt h.tz inx (fun e=>hs.at e) hx (by unfold inI;omega)⟩
 ·have hk:=ck_kind (done:=done) (t0:=t0+100) h.tz hs.fit
  have ho:openP K.cookies (sealT K.cookies ⟨c.name,c.nonce,done,s,t0+100⟩) now=(⟨c.name,c.nonce,done,s,t0+100⟩,0):=by
   rw [open_seal h.tz.ck hs.fit (by show inI (t0+100);unfold inI;omega),if_neg (by show ¬t0+100 < now;omega)]
  have hbg:begR done K.u.set=true:=by
   unfold begR;rw [h.set];simp
  unfold Kd.req
  rw [hm,opens_next h.fz (isNone_kind (by rw [hk];decide)) ho rfl rfl hbg]
  have hget:K.u.set[done.length]?=some nx:=by rw [h.set];simp
  unfold Kd.reqX
  simp only [if_true,hget]
  apply reqN_chk (prf_none inx)
  refine ⟨prf_tag inx,?_⟩
  by_cases hc:nx=chalB
  ·exact .inl hc
  ·exact .inr (hs.at hc).none
 ·rw [hm]
  have h1:=says_bulk h.tz (p:=prf c nx s x t0) (q:=sealT K.cookies ⟨c.name,c.nonce,done,s,t0+100⟩)
  have h2:=(prf_ti h.tz inx (fun e=>hs.at e) hx (by unfold inI;omega):Ti (prf c nx s x t0) 40 200000).b
  have h3:=doneB_isM (l:=done) fun d hd=>h.im d (by simp [hd])
  have hl:=h.len
  have h4:=ck_bulk (s:=s) (t0:=t0+100) (done:=done) h.tz (by omega) hs.bulk (by unfold inI;omega)
  unfold T.lo
  omega
theorem Mid.good (h:Mid c K m done nx rest t0) (hn:t0≤now∧now≤t0+5) (hg:gud c K nx):∃s K1,K.req m now=K1.reqD ((⟨c.ak,c.body,⟨c.name,c.nonce,done,s,t0+100⟩,K.u,now⟩:Tlk).more nx) c.base∧K1ok K K1 done nx rest:=by
 obtain ⟨s,x,hb,hs,hx,hr,hlo,htx⟩:=h.seen (now:=now) (by omega)
 have inx:isM nx:=h.im nx (by simp)
 have ht:=h.t
 unfold gud at hg
 obtain ⟨hits,hc,hh⟩:=chk_good (c:=c) (nx:=nx) (s:=s) (x:=x) (t0:=t0) (now:=now) (ck:=⟨c.name,c.nonce,done,s,t0+100⟩) (u:=K.u) inx rfl (fun e=>by rw [if_neg e]at hg;exact hg.symm) (fun e=>⟨by rw [if_pos e]at hg;exact hg,h.tk (by rw [e];simp)⟩) (by omega) (by omega)
 rw [hc]at hr
 have hr:=hr (by omega)
 have hlen:=h.len
 have hcl:=h.cl
 have hlive:=Rf.live_len (now:=now) (l:=K.cache)
 have hseen:Rf.seenR K.room K.cache (prf c nx s x t0).txt (now+100+1) now=(0,Rf.insR (prf c nx s x t0).txt (now+100+1) (Rf.liveC now K.cache)):=by
  unfold Rf.seenR
  rw [if_neg (by omega),lookC_none]
  ·simp only
   rw [if_neg (by rw [h.rm];omega)]
  ·intro e he
   obtain ⟨d,hd,hde⟩:=h.ca e (List.mem_filter.1 he).1
   intro heq
   rw [heq,htx]at hde
   have:=tcode_inj inx (h.im d (by simp [hd])) (Option.some.inj hde)
   exact h.nd.1 (this▸hd)
 have hmem:∀e∈Rf.insR (prf c nx s x t0).txt (now+100+1) (Rf.liveC now K.cache),∃d∈done++[nx],e.1.data[3]?=some (tcode d):=by
  intro e he
  unfold Rf.insR at he
  have hsub:e=((prf c nx s x t0).txt,now+100+1)∨e∈Rf.liveC now K.cache:=by
   rcases List.mem_append.1 he with he|he
   ·rcases List.mem_append.1 he with he|he
    ·exact .inr (List.mem_of_mem_take he)
    ·exact .inl (by simpa using he)
   ·exact .inr (List.mem_of_mem_drop he)
  rcases hsub with rfl|he
  ·exact ⟨nx,by simp,htx⟩
  ·obtain ⟨d,hd,hde⟩:=h.ca e (List.mem_filter.1 he).1
   exact ⟨d,by simp [hd],hde⟩
 have hil:(Rf.insR (prf c nx s x t0).txt (now+100+1) (Rf.liveC now K.cache)).length≤done.length+1:=by
  unfold Rf.insR
  simp;omega
 rw [hr]
 unfold Kd.reqC
 rw [if_pos rfl,hseen]
 generalize Rf.insR (prf c nx s x t0).txt (now+100+1) (Rf.liveC now K.cache)=ca at *
 unfold Kd.reqS
 rw [if_pos rfl]
 have hf:=h.fz.fl
 by_cases ho:nx=otpB
 ·rw [if_pos ho,hh ho]
  have htk:=h.tk (by rw [ho];simp)
  simp only
  rw [htk,acc_one]
  unfold Kd.reqO
  rw [if_neg (by show ¬5≤K.u.fails;omega),if_pos rfl]
  refine ⟨s,{K with cache:=ca,u:={K.u with tok:=tok1}},by rw [hb],⟨rfl,rfl,h.rm,rfl,rfl,rfl,rfl,rfl,hf,fun e=>absurd e (by rw [←ho];exact h.nd.2.1),hmem,hil⟩⟩
 ·rw [if_neg ho]
  exact ⟨s,{K with cache:=ca},by rw [hb],⟨rfl,rfl,h.rm,rfl,rfl,rfl,rfl,rfl,hf,fun e=>h.tk (by simp [e]),hmem,hil⟩⟩
end
def Cl.aft (c:Cl) (nx:ByteArray) (s x:T):Cl:={c with counter:=if nx=otpB then c.counter+1 else c.counter,base:=prB c nx s x,z2:=false,done:=true,marks:=c.marks++[(nx,c.nonce)]}
section
variable {c:Cl} {K K1:Kd} {nx:ByteArray} {s x:T} {now:Int} {D:List ByteArray}
theorem prB_bulk (h:Tz c K) (hn:isM nx) (hs:sOk nx s) (hx:atT x):(prB c nx s x).bulk≤100000:=by
 have i0:inI 0:=by unfold inI;omega
 rcases hn with rfl|rfl|rfl
 ·rw [prB_chal];have:=h.k.b;omega
 ·rw [prB_otp];have:=use_bulk (k:=c.ak) (n:=46) i46;have:=h.a.b;omega
 ·rw [prB_spk]
  have tH:=ti_hash h.b
  have tS:=(hs.at chal_spk.symm).ti
  have tX:=hx.ti
  obtain ⟨tSh,_⟩:=ti_share tX tS (tX.sb (by omega) (by omega)).1.txt (tS.sb (by omega) (by omega)).1.txt
  have tWd':=ti_kdf (n:=⟨#[119,111,114,100]⟩) (m:=4) h.k (by decide) (Nat.le_refl _)
  have tmY:=ti_mask (ti_pub tS) tWd'
  have tmX:=ti_mask (ti_pub tX) tWd'
  have tP:=ti_hash (ti_pair (d:=10) (.cons tSh (.cons tWd' (.cons tmY (.cons tmX (.cons tH .nil (by omega)) (by omega)) (by omega)) (by omega)) (by omega)))
  exact ((ti_use tP i0).up (d':=40) (b':=100000) (by omega) (by omega)).b
theorem take_off_good (hon:c.on=true) {u:Us} {q:T} (h:isM nx) (hk:nx=spkB→u.key=c.key) (hc:nx=otpB→c.counter=2):
 c.take (tAns c.ak c.nonce (tPack moreB [offO u nx s,q])) now x=(c.aft nx s x,c.says (prf c nx s x now) q,0):=by
 rw [take_more hon,does_off h hk hc]
 unfold Cl.takeD
 rw [if_pos rfl,off_tag h]
 simp only
 unfold Cl.aft Cl.up
 split<;>rfl
theorem take_off_bad (hon:c.on=true) {u:Us} {q:T} (hk:u.key≠c.key):
 c.take (tAns c.ak c.nonce (tPack moreB [offO u spkB s,q])) now x=(c,tNone,6):=by
 rw [take_more hon,does_bad hk]
 unfold Cl.takeD
 rw [if_neg (show ¬(6:Int)=0 by decide)]
theorem off_bulk (h:Tz c K) {q:T} (hn:isM nx) (hs:sOk nx s) (hq:q.bulk≤20000):(tAns c.ak c.nonce (tPack moreB [offO K.u nx s,q])).bulk≤60000:=by
 have h1:=ans_bulk h (t:=tPack moreB [offO K.u nx s,q])
 have z:moreB.size=4:=rfl
 rw [pack_bulk,bulkL_cons,bulkL_cons,bulkL_nil,z]at h1
 have hsb:=hs.bulk
 have ho:(offO K.u nx s).bulk≤10000:=by
  unfold offO
  rcases hn with rfl|rfl|rfl
  ·rw [if_pos rfl,pack_bulk,bulkL_nil];show 9+0+8≤_;omega
  ·rw [if_neg chal_otp.symm,if_neg otp_spk];unfold tOffer;rw [pack_bulk,bulkL_cons,bulkL_nil];show 3+_+8≤_;omega
  ·rw [if_neg chal_spk.symm,if_pos rfl]
   have tS:=(hs.at chal_spk.symm).ti
   have tWd':=ti_kdf (n:=⟨#[119,111,114,100]⟩) (m:=4) h.u (by decide) (Nat.le_refl _)
   have tmY:=ti_mask (ti_pub tS) tWd'
   exact ((ti_pack (n:=spkB) (m:=5) (d:=20) (by decide) (Nat.le_refl _) (.cons tmY .nil (by omega)) (by omega)).up (d':=40) (b':=10000) (by omega) (by omega)).b
 omega
theorem offT_is {X:Tlk} (ha:X.ak=c.ak) (hno:X.c.nonce=c.nonce) (hcl:X.c.client=c.name) (hu:X.u=K.u) (hd:X.c.done=D) (hw:X.now=now) (hck:K1.cookies=K.cookies):
 K1.offT X nx=tAns c.ak c.nonce (tPack moreB [offO K.u nx (K1.offS nx),sealT K.cookies ⟨c.name,c.nonce,D,K1.offS nx,now+100⟩]):=by
 obtain ⟨ak,body,⟨cl,no,dn,se,up⟩,u,w⟩:=X
 simp only at ha hno hcl hu hd hw
 subst ha hno hcl hu hd hw
 unfold Kd.offT offA Kd.offC
 rw [hck]
theorem reqD_more {X:Tlk} {base:T} {nx2:ByteArray} (h:X.c.done.length≠X.u.set.length) (hg:X.u.set[X.c.done.length]?=some nx2):K1.reqD X base=(K1.offT X nx2,K1.offK nx2,none):=by
 unfold Kd.reqD
 rw [if_neg h]
 simp only [hg]
theorem reqD_last {X:Tlk} {base:T} (h:X.c.done.length=X.u.set.length):K1.reqD X base=(K1.tktT X base,K1.tktK,some (X.c.client,X.c.nonce,X.c.done,drawT (K1.n+1))):=by
 unfold Kd.reqD
 rw [if_pos h]
theorem offK_same:(K1.offK nx).key=K1.key∧(K1.offK nx).cookies=K1.cookies∧(K1.offK nx).u=K1.u∧(K1.offK nx).room=K1.room∧(K1.offK nx).cache=K1.cache:=by
 unfold Kd.offK;split<;>exact ⟨rfl,rfl,rfl,rfl,rfl⟩
theorem mid_of {done rest:List ByteArray} (fz:Fz c K) (tz:Tz c K) (hon:c.on=true) (set:K.u.set=D++nx::rest) (im:∀d∈D++nx::rest,isM d) (nd:nx∉D∧nx∉rest∧∀d∈rest,d∉D) (ndr:rest.Nodup)
 (kk:K1.key=K.key) (kc:K1.cookies=K.cookies) (kr:K1.room=16) (kn:K1.u.name=K.u.name) (ku:K1.u.key=K.u.key) (ks:K1.u.set=K.u.set) (kf:K1.u.fails=0)
 (kt:otpB∈nx::rest→K1.u.tok=tok0) (ca:∀e∈K1.cache,∃d∈D,e.1.data[3]?=some (tcode d)) (cl:K1.cache.length≤D.length) (ms:c.marks=D.map fun d=>(d,c.nonce)) (len:D.length+rest.length≤2)
 (cn:CtOf c D) (sp:nx=spkB→K.u.key=c.key) (hs:sOk nx s) (hx:atT x) (ht:0≤now∧now≤10000000):
 Mid (c.aft nx s x) (K1.offK nx) (c.says (prf c nx s x now) (sealT K.cookies ⟨c.name,c.nonce,D,s,now+100⟩)) D nx rest now:=by
 obtain ⟨o1,o2,o3,o4,o5⟩:=@offK_same K1 nx
 refine ⟨⟨hon,?_,fz.body,fz.nm,fz.nn,?_,?_⟩,⟨tz.a,tz.k,tz.b,tz.d,?_,tz.w,?_,?_,?_,tz.n,tz.m⟩,rfl,?_,im,nd,ndr,?_,?_,?_,?_,len,?_,?_,?_,⟨s,x,?_,rfl,hs,hx⟩,ht⟩
 ·rw [o1,kk];exact fz.arm
 ·rw [o3,kn];exact fz.un
 ·rw [o3];exact kf
 ·rw [o3,ku];exact tz.u
 ·rw [o2,kc];exact tz.ck
 ·rw [o2,kc];exact tz.cb
 ·rw [o1,kk];exact tz.kb
 ·rw [o3,ks];exact set
 ·rw [o4];exact kr
 ·rw [o5];exact ca
 ·rw [o5];exact cl
 ·show c.marks++[(nx,c.nonce)]=(D++[nx]).map fun d=>(d,c.nonce)
  rw [ms,List.map_append];rfl
 ·rw [o3];exact kt
 ·have hc:(c.aft nx s x).counter=if nx=otpB then c.counter+1 else c.counter:=rfl
  unfold CtOf
  rw [hc]
  by_cases h:nx=otpB
  ·have hD:otpB∉D:=by rw [←h];exact nd.1
   rw [if_pos h,cn.2 hD]
   exact ⟨fun _=>rfl,fun e=>absurd (by simp [h]) e⟩
  ·rw [if_neg h]
   refine ⟨fun e=>cn.1 ?_,fun e=>cn.2 fun e'=>e (by simp [e'])⟩
   rcases List.mem_append.1 e with e|e
   ·exact e
   ·exact absurd (List.mem_singleton.1 e).symm h
 ·rw [o3,ku];exact sp
 ·rw [o2,kc];rfl
end
structure Ini (c:Cl) (K:Kd) (m:T) (nx:ByteArray) (rest:List ByteArray):Prop where
 fz:Fz c K
 tz:Tz c K
 set:K.u.set=nx::rest
 im:∀d∈nx::rest,isM d
 nd:nx∉rest
 ndr:rest.Nodup
 rm:K.room=16
 ca:K.cache=[]
 ms:c.marks=[]
 len:rest.length≤2
 tk:K.u.tok=tok0
 cn:c.counter=2
 m:m=c.says tNone tNone
section
variable {c:Cl} {K:Kd} {m:T} {done rest:List ByteArray} {nx nx2:ByteArray} {t0 now:Int} {x:T}
theorem Ini.req (h:Ini c K m nx rest):K.req m now=(tAns c.ak c.nonce (tPack moreB [offO K.u nx (K.offS nx),sealT K.cookies ⟨c.name,c.nonce,[],K.offS nx,now+100⟩]),K.offK nx,none):=by
 unfold Kd.req
 rw [h.m,opens_first h.fz]
 have hget:K.u.set[([]:List ByteArray).length]?=some nx:=by rw [h.set];rfl
 unfold Kd.reqX
 simp only [if_true,hget]
 rw [reqN_off isNone_none,offT_is (c:=c) (K:=K) rfl rfl rfl rfl rfl rfl rfl]
theorem Ini.lo (h:Ini c K m nx rest):m.lo:=by
 rw [h.m]
 have h1:=says_bulk h.tz (p:=tNone) (q:=tNone)
 have h2:tNone.bulk=12:=by decide
 unfold T.lo;omega
theorem Ini.step (h:Ini c K m nx rest) (hK:0≤K.n∧K.n≤900000) (hx:atT x) (ht:0≤now∧now≤10000000):(K.req m now).1.lo∧(K.req m now).2.2=none∧
 ((nx=spkB→K.u.key=c.key)→(c.take (K.req m now).1 now x).2.2=0∧(c.take (K.req m now).1 now x).1=c.aft nx (K.offS nx) x∧(K.req m now).2.1=K.offK nx∧Mid (c.take (K.req m now).1 now x).1 (K.req m now).2.1 (c.take (K.req m now).1 now x).2.1 [] nx rest now)∧
 (nx=spkB→K.u.key≠c.key→c.take (K.req m now).1 now x=(c,tNone,6)):=by
 have inx:=h.im nx (by simp)
 have hs:=@sOk_off K nx hK
 rw [h.req]
 simp only
 have hcb:=ck_bulk (done:=[]) (s:=K.offS nx) (t0:=now+100) h.tz (by simp [doneB]) hs.bulk (by unfold inI;omega)
 refine ⟨?_,trivial,fun hk=>?_,fun e hk=>?_⟩
 ·have:=off_bulk h.tz inx hs hcb
  unfold T.lo;omega
 ·rw [take_off_good h.fz.on inx hk (fun _=>h.cn)]
  refine ⟨rfl,rfl,trivial,?_⟩
  have:=mid_of (c:=c) (K:=K) (K1:=K) (nx:=nx) (D:=[]) (rest:=rest) (done:=[]) (x:=x) (now:=now) h.fz h.tz h.fz.on h.set h.im ⟨by simp,h.nd,by simp⟩ h.ndr rfl rfl h.rm rfl rfl rfl h.fz.fl (fun _=>h.tk) (by rw [h.ca];simp) (by rw [h.ca];simp) h.ms (by simpa using h.len) ⟨by simp,fun _=>h.cn⟩ hk hs hx ht
  exact this
 ·subst e
  exact take_off_bad h.fz.on hk
theorem Mid.step (h:Mid c K m done nx (nx2::rest) t0) (hn:t0≤now∧now≤t0+5) (hg:gud c K nx) (hK:0≤K.n∧K.n≤900000) (hx:atT x) (ht:now≤10000000):(K.req m now).1.lo∧(K.req m now).2.2=none∧
 ((nx2=spkB→K.u.key=c.key)→(c.take (K.req m now).1 now x).2.2=0∧Mid (c.take (K.req m now).1 now x).1 (K.req m now).2.1 (c.take (K.req m now).1 now x).2.1 (done++[nx]) nx2 rest now∧
   (c.take (K.req m now).1 now x).1.ended=c.ended∧(c.take (K.req m now).1 now x).1.nonce=c.nonce∧(c.take (K.req m now).1 now x).1.seed=c.seed∧(c.take (K.req m now).1 now x).1.key=c.key∧(K.req m now).2.1.u.key=K.u.key∧(K.req m now).2.1.u.seed=K.u.seed)∧
 (nx2=spkB→K.u.key≠c.key→c.take (K.req m now).1 now x=(c,tNone,6)):=by
 obtain ⟨s0,K1,hr,k1⟩:=h.good hn hg
 have inx2:=h.im nx2 (by simp)
 have hlen:(done++[nx]).length≠K.u.set.length:=by rw [h.set];simp
 have hget:K.u.set[(done++[nx]).length]?=some nx2:=by
  rw [h.set,show done++nx::nx2::rest=(done++[nx])++nx2::rest by simp]
  simp
 have hr2:K.req m now=(tAns c.ak c.nonce (tPack moreB [offO K.u nx2 (K1.offS nx2),sealT K.cookies ⟨c.name,c.nonce,done++[nx],K1.offS nx2,now+100⟩]),K1.offK nx2,none):=by
  rw [hr,reqD_more hlen hget,offT_is (c:=c) (K:=K) (D:=done++[nx]) (now:=now) rfl rfl rfl rfl rfl rfl k1.cookies]
 have hs:=@sOk_off K1 nx2 (by rw [k1.n];exact hK)
 have hd:doneB (done++[nx])≤1000:=by
  have h3:=doneB_isM (l:=done++[nx]) fun d hd=>h.im d (by simp at hd ⊢;rcases hd with hd|hd<;>simp [hd])
  have:=h.len
  simp at h3 this;omega
 have htt:=h.t
 have hcb:=ck_bulk (done:=done++[nx]) (s:=K1.offS nx2) (t0:=now+100) h.tz hd hs.bulk (by unfold inI;omega)
 rw [hr2]
 simp only
 obtain ⟨o1,o2,o3,o4,o5⟩:=@offK_same K1 nx2
 have hlen2:=h.len
 have set2:K.u.set=(done++[nx])++nx2::rest:=by rw [h.set];simp
 refine ⟨?_,trivial,fun hk=>?_,fun e hk=>?_⟩
 ·have:=off_bulk h.tz inx2 hs hcb
  unfold T.lo;omega
 ·have hcn:nx2=otpB→c.counter=2:=fun e=>by
   apply h.ct.2
   intro e'
   rcases List.mem_append.1 e' with e'|e'
   ·exact h.nd.2.2 nx2 (by simp) (by rw [e];exact e')
   ·have:=List.mem_singleton.1 e'
    exact h.nd.2.1 (by rw [←this,←e];simp)
  rw [take_off_good h.fz.on inx2 hk hcn]
  refine ⟨rfl,?_,rfl,rfl,rfl,rfl,by rw [o3,k1.uk],by rw [o3,k1.ud]⟩
  have hnd:=h.nd
  have hndr:=List.nodup_cons.1 h.ndr
  refine mid_of (c:=c) (K:=K) (K1:=K1) (nx:=nx2) (D:=done++[nx]) (rest:=rest) (done:=[]) (x:=x) (now:=now) h.fz h.tz h.fz.on set2 (by rw [←set2,h.set];exact h.im) ⟨?_,hndr.1,?_⟩ hndr.2 k1.key k1.cookies k1.room k1.un k1.uk k1.us k1.uf k1.tk k1.ca (by simpa using k1.cl) h.ms (by simp at hlen2 ⊢;omega) h.ct hk hs hx ⟨by omega,ht⟩
  ·intro e
   rcases List.mem_append.1 e with e|e
   ·exact hnd.2.2 nx2 (by simp) e
   ·rw [List.mem_singleton.1 e]at hnd;exact hnd.2.1 (by simp)
  ·intro d hd e
   rcases List.mem_append.1 e with e|e
   ·exact hnd.2.2 d (by simp [hd]) e
   ·rw [List.mem_singleton.1 e]at hd;exact hnd.2.1 (by simp [hd])
 ·subst e
  exact take_off_bad h.fz.on hk
theorem words_bulk:∀{l:List ByteArray},(∀d∈l,isM d)→bulkL (wordsT l)≤l.length * 14
 |[],_=>by show bulkL []≤_;rw [bulkL_nil];omega
 |s::l,h=>by
  have ih:=words_bulk (l:=l) fun d hd=>h d (by simp [hd])
  have hz:s.size≤9:=by
   rcases h s (by simp) with rfl|rfl|rfl
   ·show 9≤9;omega
   ·show 3≤9;omega
   ·show 5≤9;omega
  show bulkL (tWord s::wordsT l)≤_
  rw [bulkL_cons,word_bulk,List.length_cons];omega
theorem Mid.last (h:Mid c K m done nx [] t0) (hn:t0≤now∧now≤t0+5) (hg:gud c K nx) (hK:0≤K.n∧K.n≤900000):(K.req m now).1.lo∧(K.req m now).2.2=some (c.name,c.nonce,done++[nx],drawT (K.n+1))∧
 c.take (K.req m now).1 now x=({c with session:=drawT (K.n+1),ended:=true,on:=false,z3:=false},tNone,0):=by
 obtain ⟨s0,K1,hr,k1⟩:=h.good hn hg
 have hlen:(done++[nx]).length=K.u.set.length:=by rw [h.set]
 have hr2:K.req m now=(tktR c.ak c.nonce c.base (drawT (K.n+1)) (drawT (K.n+1+1)) (tkt K.key c.name (drawT (K.n+1)) (done++[nx]) now),K1.tktK,some (c.name,c.nonce,done++[nx],drawT (K.n+1))):=by
  rw [hr,reqD_last hlen]
  unfold Kd.tktT
  rw [k1.n,k1.key]
  rfl
 rw [hr2]
 simp only
 refine ⟨?_,trivial,?_⟩
 ·obtain ⟨s,y,hm,hb,hs,hy⟩:=h.ex
  have inx:=h.im nx (by simp)
  have tb:=prB_bulk h.tz inx hs hy
  rw [←hb]at tb
  have hw:=words_bulk (l:=done++[nx]) fun d hd=>h.im d (by simpa using hd)
  have hl:=h.len
  have d1:=(draw_at (n:=K.n+1) (by omega)).ti.b
  have d2:=(draw_at (n:=K.n+1+1) (by omega)).ti.b
  have hkb:=h.tz.kb
  have hnn:=h.tz.n
  have hnm:=h.tz.m
  have htt:=h.t
  have in3:inI 3:=by unfold inI;omega
  have t1:=seal_bulkT (k:=K.key) (t:=tPack tktB [tWord c.name,drawT (K.n+1),tPair (wordsT (done++[nx])),tNum now]) (n:=3) in3
  have hnum:(tNum now).bulk≤25:=by
   show (tWord (itoaB now)).bulk≤_
   rw [word_bulk];have:=itoa_sz (n:=now) (by unfold inI;omega);omega
  rw [pack_bulk,bulkL_cons,bulkL_cons,bulkL_cons,bulkL_cons,bulkL_nil,word_bulk,pair_bulk]at t1
  have z1:tktB.size=6:=rfl
  have t1':(tkt K.key c.name (drawT (K.n+1)) (done++[nx]) now).bulk≤10000:=by
   unfold tkt
   simp at hw hl
   omega
  generalize tkt K.key c.name (drawT (K.n+1)) (done++[nx]) now=t at *
  have trep:(tRep (drawT (K.n+1+1)) c.base).bulk≤110000:=by
   unfold tRep tJoin tKdf
   rw [hashT_bulk,pair_bulk,bulkL_cons,bulkL_cons,bulkL_nil,mk_bulk,mk_bulk,bulkL_cons,bulkL_cons,bulkL_nil]
   have j1:=(join_name (f:=strkB) (by show 13≤90;omega)).2
   have j2:=(join_name (f:=repkB) (by show 8≤90;omega)).2
   omega
  have t2:=seal_bulkT (k:=tRep (drawT (K.n+1+1)) c.base) (t:=tPack encB [drawT (K.n+1),tWord c.nonce,tHash t]) (n:=3) in3
  rw [pack_bulk,bulkL_cons,bulkL_cons,bulkL_cons,bulkL_nil,word_bulk,hashT_bulk]at t2
  have z2:encB.size=3:=rfl
  have t3:=ans_bulk h.tz (t:=tPack finB [drawT (K.n+1+1),tHash t])
  rw [pack_bulk,bulkL_cons,bulkL_cons,bulkL_nil,hashT_bulk]at t3
  have z3:finB.size=6:=rfl
  have z4:repB.size=6:=rfl
  unfold T.lo tktR tktE
  rw [pack_bulk,bulkL_cons,bulkL_cons,bulkL_cons,bulkL_nil]
  omega
 ·unfold tktR
  rw [take_rep h.fz.on,ends_ok h.dn]
end
def Sti (set:List ByteArray) (i:Nat) (c:Cl) (K:Kd) (m:T) (t0:Int):Prop:=
 (i=0∧∃nx rest,Ini c K m nx rest∧set=nx::rest)∨(∃done nx rest,Mid c K m done nx rest t0∧set=done++nx::rest∧i=done.length+1)
structure Rnd (c:Cl) (K:Kd) (m:T) (now:Int) (x:T):Prop where
 mlo:m.lo
 rlo:(K.req m now).1.lo
 e:(c.take (K.req m now).1 now x).2.2=0
section
variable {set:List ByteArray} {i:Nat} {c:Cl} {K:Kd} {m x:T} {t0 now:Int}
theorem Sti.step (h:Sti set i c K m t0) (hi:i < set.length) (hn:t0≤now∧now≤t0+5) (h0:0≤now∧now≤10000000) (gk:c.key=K.u.key) (gs:c.seed=K.u.seed) (hK:0≤K.n∧K.n≤900000) (hx:atT x):
 Rnd c K m now x∧(K.req m now).2.2=none∧Sti set (i+1) (c.take (K.req m now).1 now x).1 (K.req m now).2.1 (c.take (K.req m now).1 now x).2.1 now∧
  (c.take (K.req m now).1 now x).1.key=(K.req m now).2.1.u.key∧(c.take (K.req m now).1 now x).1.seed=(K.req m now).2.1.u.seed∧(c.take (K.req m now).1 now x).1.nonce=c.nonce:=by
 have hg:∀d,gud c K d:=fun d=>by unfold gud;split<;>assumption
 rcases h with ⟨rfl,nx,rest,hI,hs⟩|⟨done,nx,rest,hM,hs,hd⟩
 ·obtain ⟨h1,h2,h3,_⟩:=hI.step (x:=x) hK hx h0
  obtain ⟨h4,h5,h6,h7⟩:=h3 fun _=>gk.symm
  refine ⟨⟨hI.lo,h1,h4⟩,h2,.inr ⟨[],nx,rest,h7,hs,rfl⟩,?_,?_,by rw [h5];rfl⟩
  ·rw [h5,h6,(@offK_same K nx).2.2.1];exact gk
  ·rw [h5,h6,(@offK_same K nx).2.2.1];exact gs
 ·match rest,hM,hs with
  |[],hM,hs=>rw [hs]at hi;simp at hi;omega
  |nx2::rest,hM,hs=>
   obtain ⟨_,_,_,_,_,_,hlo,_⟩:=hM.seen (now:=now) (by omega)
   obtain ⟨h1,h2,h3,_⟩:=hM.step (x:=x) hn (hg nx) hK hx h0.2
   obtain ⟨h4,h5,_,h10,h6,h7,h8,h9⟩:=h3 fun _=>gk.symm
   refine ⟨⟨hlo,h1,h4⟩,h2,.inr ⟨done++[nx],nx2,rest,h5,by rw [hs];simp,by rw [hd];simp⟩,?_,?_,h10⟩
   ·rw [h7,h8];exact gk
   ·rw [h6,h9];exact gs
theorem Sti.last (h:Sti set i c K m t0) (hi:i=set.length) (hn:t0≤now∧now≤t0+5) (gk:c.key=K.u.key) (gs:c.seed=K.u.seed) (hK:0≤K.n∧K.n≤900000):
 Rnd c K m now x∧(K.req m now).2.2=some (c.name,c.nonce,set,drawT (K.n+1))∧c.take (K.req m now).1 now x=({c with session:=drawT (K.n+1),ended:=true,on:=false,z3:=false},tNone,0)∧c.marks=set.map (fun d=>(d,c.nonce))∧CtOf c set:=by
 have hg:∀d,gud c K d:=fun d=>by unfold gud;split<;>assumption
 rcases h with ⟨rfl,nx,rest,hI,hs⟩|⟨done,nx,rest,hM,hs,hd⟩
 ·rw [hs]at hi;simp at hi
 ·match rest,hM,hs with
  |nx2::rest,hM,hs=>rw [hs,hd]at hi;simp at hi
  |[],hM,hs=>
   obtain ⟨_,_,_,_,_,_,hlo,_⟩:=hM.seen (now:=now) (by omega)
   obtain ⟨h1,h2,h3⟩:=hM.last (x:=x) hn (hg nx) hK
   rw [hs]
   exact ⟨⟨hlo,h1,by rw [h3]⟩,h2,h3,hM.ms,hM.ct⟩
end
structure KD (K:Kd) (set:List ByteArray):Prop where
 key:K.key=tAtom kdcB
 cookies:K.cookies=tAtom cokB
 u:K.u=us0 set
 room:K.room=16
 cache:K.cache=[]
theorem kd0_KD {set:List ByteArray}:KD (kd0 set) set:=⟨rfl,rfl,rfl,rfl,rfl⟩
theorem ti_at {n:ByteArray} (h:n≠⟨#[]⟩) (hn:n.size≤1000):Ti (tAtom n) 1 1004:=ti_atom h hn
theorem ti_long {p n:ByteArray} (h:p≠⟨#[]⟩) (hp:p.size≤1000) (hn:n.size≤1000):Ti (tLong (tAtom p) n) 6 4000:=
 (ti_kdf (n:=longB++n) (m:=1005) (ti_at h hp) (app_nonempty (by show 5≠0;omega)) (by rw [ByteArray.size_append];have:longB.size=5:=rfl;omega)).up (by omega) (by omega)
theorem ini_of {K:Kd} {pw sd nonce sn nx:ByteArray} {rest:List ByteArray} (h:KD K (nx::rest)) (hpw:pw≠⟨#[]⟩∧pw.size≤1000) (hsd:sd≠⟨#[]⟩∧sd.size≤1000) (hno:nonce≠⟨#[]⟩∧nonce.size≤700) (hsn:sn≠⟨#[]⟩∧sn.size≤1000)
 (im:∀d∈nx::rest,isM d) (nd:(nx::rest).Nodup) (len:rest.length≤2):
 Ini ((c0 (tAtom pw) (tAtom sd)).start nonce (tAtom sn)) K (((c0 (tAtom pw) (tAtom sd)).start nonce (tAtom sn)).says tNone tNone) nx rest:=by
 have hu:=h.u
 have z1:hostB.size=4:=rfl
 have z2:kdcB.size=3:=rfl
 have z3:cokB.size=6:=rfl
 have z4:pwaB.size=10:=rfl
 have z5:naB.size=1:=rfl
 have tH:Ti hostT 1 1004:=ti_at (by decide) (by omega)
 have tS:=ti_at hsn.1 hsn.2
 obtain ⟨j1,j2⟩:=join_name (f:=subkB) (by show 11≤90;omega)
 obtain ⟨j3,j4⟩:=join_name (f:=tickB) (by show 11≤90;omega)
 have tA:=ti_hash (ti_pair (d:=2) (.cons (ti_kdf tS j1 j2) (.cons (ti_kdf tH j3 j4) .nil (by omega)) (by omega)))
 have tB:=ti_pack (n:=bodyB) (m:=4) (d:=1) (by decide) (Nat.le_refl _) (.cons (ti_data (n:=eqB naB) (m:=1001) word_ne (by rw [eqB_size];omega)) (.cons (ti_data (n:=eqB nonce) (m:=1001) word_ne (by rw [eqB_size];omega)) .nil (by omega)) (by omega)) (by omega)
 have hkc:K.cookies.fit=true:=by rw [h.cookies];exact atT.fit ⟨cokB,rfl,by decide,by omega⟩
 have hnd:=List.nodup_cons.1 nd
 have in2:inI 2:=by unfold inI;omega
 refine ⟨⟨rfl,?_,rfl,by show naB≠_;decide,hno.1,?_,?_⟩,⟨tA.up (by omega) (by omega),ti_long hpw.1 hpw.2 (by omega),tB.up (by omega) (by omega),(ti_at hsd.1 hsd.2).up (by omega) (by omega),?_,?_,hkc,?_,?_,by show naB.size≤_;omega,by show nonce.size≤_;omega⟩,?_,im,hnd.1,hnd.2,h.room,h.cache,rfl,len,?_,rfl,rfl⟩
 ·rw [h.key];exact arm_of
 ·rw [hu];rfl
 ·rw [hu];rfl
 ·rw [hu];exact ti_long (by decide) (by omega) (by omega)
 ·have s1:=seal_bulkT (k:=tAtom kdcB) (t:=tPack hostB [hostT]) (n:=2) in2
  have s2:=seal_bulkT (k:=hostT) (t:=tPack authB [tAtom sn]) (n:=11) i11
  rw [pack_bulk,bulkL_cons,bulkL_nil]at s1 s2
  have b1:=tH.b
  have b2:=tS.b
  have b3:(tAtom kdcB).bulk=7:=by rw [atom_bulk];rfl
  have b4:hostT.bulk=8:=by show (tAtom hostB).bulk=_;rw [atom_bulk];rfl
  have z6:authB.size=4:=rfl
  have z7:armoB.size=5:=rfl
  show (tPack armoB [tSeal (tAtom kdcB) 2 (tPack hostB [hostT]),tSeal hostT 11 (tPack authB [tAtom sn])]).bulk≤_
  rw [pack_bulk,bulkL_cons,bulkL_cons,bulkL_nil]
  omega
 ·rw [h.cookies,atom_bulk];omega
 ·rw [h.key,atom_bulk];omega
 ·rw [hu];rfl
 ·rw [hu];rfl
end Abs
