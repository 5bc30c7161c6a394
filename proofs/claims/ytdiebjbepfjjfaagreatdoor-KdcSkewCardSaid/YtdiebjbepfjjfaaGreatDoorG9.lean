/- MessageKnown: at the machine. -/
import Derived.Test.YtdiebjbepfjjfaaGreatDoorG8
import Derived.Test.YtdiebjbepfjjfaaGreatDoorG2
import Derived.Test.YtdiebjbepfjjfaaGreatDoorG3
set_option maxHeartbeats 16000000
set_option maxRecDepth 100000
set_option linter.unusedVariables false
set_option linter.unusedSimpArgs false
set_option linter.unusedSectionVars false
namespace Abs
open Go
theorem zny{s:ByteArray}:eqB s≠⟨#[]⟩:=by unfold eqB;exact vE (by show 1≠0;omega)
theorem zgE{s:ByteArray}:(eqB s).size=s.size+1:=by
 unfold eqB;rw[xai];have:(⟨#[61]⟩:ByteArray).size=1:=rfl;omega
section
variable{S:AS}
end
theorem zA0{L:List T}{t:T}:inL L t=decide (t∈L):=by
 by_cases h:t∈L
 ·rw[zrI.2 h];simp[h]
 ·rw[Bool.eq_false_iff.2 fun e=>h (zrI.1 e)];simp[h]
structure Hd where
 a:ByteArray
 b:ByteArray
 x:ByteArray
 y:ByteArray
 w:ByteArray
 u:T
 sh:T
namespace Hd
def A(h:Hd):T:=zB h.a
def B(h:Hd):T:=zP h.b
def W(h:Hd):T:=zB h.w
def mY(h:Hd):T:=yT (zB h.y) h.u
def mX(h:Hd):T:=yT (zB h.x) h.u
def key(h:Hd)(n:Int):T:=jy (yC (zS [h.sh,tWd h.u,h.mY,h.mX,yC h.B])) n
def fac(h:Hd):T:=jI (jy (h.key 1) 60) (zG zbt [])
def off(h:Hd):T:=zG yo [h.mY]
def ans(h:Hd):T:=zG yo [h.mX,h.fac]
def Q1(h:Hd):List T:=[h.B,h.off,h.ans,zP yo,h.mY,h.mX,h.fac]
def Q2(h:Hd):List T:=h.W::wQ (zB h.y)::wQ (zB h.x)::h.Q1
def ck(h:Hd):T:=jy (tCk h.A h.u) 54
def en(h:Hd):T:=jI h.ck (zcH h.B 5)
def ch(h:Hd):T:=zG zr [h.en]
def Q3(h:Hd):List T:=[h.B,h.ch,zP zr,h.en]
structure ok(h:Hd):Prop where
 u:h.u=qq h.W ⟨#[108,111,110,103,32,110,97,109,101]⟩
 sh:h.sh=.mk 9 ⟨#[]⟩ [zB h.x,zB h.y]\/h.sh=.mk 9 ⟨#[]⟩ [zB h.y,zB h.x]
 wx:h.x≠h.w
 wy:h.y≠h.w
 wa:h.a≠h.w
end Hd
section
attribute [local simp] mkP zji shP zA0 Hd.Q1 Hd.Q2 Hd.Q3 Hd.A Hd.W Hd.B Hd.off Hd.ans Hd.mY Hd.mX Hd.fac Hd.key Hd.ck Hd.en Hd.ch zB zP zG zS yT zcF jI wQ yC qq jy tWd tCk kL zcH
variable{h:Hd}
end
section
variable{h:Hd}{U L L1 L2:List T}
end
structure Fv.good(f:Fv):Prop where
 ak:f.ak.bb
 user:f.user.bb
 body:f.body.bb
 x:f.x.bb
 y:f.y.bb
 xy:zbc f.x f.y
 yx:zbc f.y f.x
 yy:zbc f.y f.y
 ne:f.x≠f.y
section
variable{S:AS}
end
def T.sb(t:T):Prop:=t.tidy/\t.bulk<=1099511627770
structure Ti(t:T)(d b:Nat):Prop where
 s:t.rshp=true
 o:t.ord=true
 d:t.dp<=d
 b:t.bulk<=b
structure TiL(l:List T)(d b:Nat):Prop where
 s:∀t∈l,t.rshp=true
 o:∀t∈l,t.ord=true
 d:∀t∈l,t.dp<=d
 b:yF l<=b
theorem Ti.sb{t:T}{d b:Nat}(h:Ti t d b)(a:d<=60)(e:b<=1099511627770):t.sb:=⟨⟨T.right_iff.2 ⟨h.s,xaD h.d a,h.o⟩,by have:=h.b;omega⟩,by have:=h.b;omega⟩
theorem TiL.nil{d:Nat}:TiL [] d 0:=⟨by simp,by simp,by simp,by rw[jA];exact xad _⟩
theorem TiL.cons{t:T}{l:List T}{d b d' b':Nat}(h:Ti t d' b)(e:TiL l d b')(f:d'<=d):TiL (t::l) d (b+b'):=by
 refine⟨fun u a=>?_,fun u a=>?_,fun u a=>?_,by rw[yA];have:=h.b;have:=e.b;omega⟩<;>rcases xaz.1 a with rfl|a
 ·exact h.s
 ·exact e.s u a
 ·exact h.o
 ·exact e.o u a
 ·exact xaD h.d f
 ·exact e.d u a
theorem Ti.node{k:Int}{n:ByteArray}{l:List T}{d b m:Nat}(h1:(T.mk k n l).one=true)(hs:vQ k l=true)(h:TiL l d b)(hm:n.size<=m):Ti (T.mk k n l) (d+1) (b+m+4)where
 s:=by rw[T.rshp_def,h1,Bool.true_and];exact zd9.2 h.s
 o:=by rw[T.ord_def,zfL,xab,List.all_eq_true];exact⟨hs,h.o⟩
 d:=by rw[T.dp_def];have:dpL (T.mk k n l).kids<=d:=zgB h.d;omega
 b:=by rw[T.bulk];have:=h.b;omega
section
variable{t u:T}{n:ByteArray}{d d' b b' m:Nat}{l:List T}
theorem zuZ(a:n≠⟨#[]⟩)(e:n.size<=m):Ti (zB n) 1 (m+4):=by
 have:=Ti.node (k:=2) (n:=n) (l:=[]) (d:=0) (by simp[T.one,knd,nmd,kdn,T.kind,T.name,T.kids,a]) rfl TiL.nil e;rw[Nat.zero_add,Nat.zero_add]at this;exact this
theorem zjR(a:n≠⟨#[]⟩)(e:n.size<=m):Ti (zP n) 1 (m+4):=by
 have:=Ti.node (k:=1) (n:=n) (l:=[]) (d:=0) (by simp[T.one,knd,nmd,kdn,T.kind,T.name,T.kids,a]) rfl TiL.nil e;rw[Nat.zero_add,Nat.zero_add]at this;exact this
theorem za7(h:Ti t d b)(a:n≠⟨#[]⟩)(e:n.size<=m):Ti (qq t n) (d+1) (b+0+m+4):=
 Ti.node (b:=b+0) (m:=m) (k:=7) (by simp[T.one,knd,nmd,kdn,T.kind,T.name,T.kids,a]) rfl (.cons h .nil (xad _)) e
theorem zjS(h:Ti t d b):Ti (yC t) (d+1) (b+0+0+4):=Ti.node (b:=b+0) (m:=0) (k:=6) (by simp[T.one,knd,nmd,kdn,T.kind,T.name,T.kids]) rfl (.cons h .nil (xad _)) (xad _)
theorem znr(h:Ti t d b):Ti (wQ t) (d+1) (b+0+0+4):=Ti.node (b:=b+0) (m:=0) (k:=8) (by simp[T.one,knd,nmd,kdn,T.kind,T.name,T.kids]) rfl (.cons h .nil (xad _)) (xad _)
theorem znq(h:Ti t d b)(a:Ti u d' b'):Ti (zcF t u) (max d d'+1) (b+(b'+0)+0+4):=
 Ti.node (b:=b+(b'+0)) (m:=0) (k:=10) (by simp[T.one,knd,nmd,kdn,T.kind,T.name,T.kids]) rfl (.cons h (.cons a .nil (Nat.le_max_right _ _)) (Nat.le_max_left _ _)) (xad _)
theorem znp(h:Ti t d b)(a:Ti u d' b'):Ti (jI t u) (max d d'+1) (b+(b'+0)+0+4):=
 Ti.node (b:=b+(b'+0)) (m:=0) (k:=4) (by simp[T.one,knd,nmd,kdn,T.kind,T.name,T.kids]) rfl (.cons h (.cons a .nil (Nat.le_max_right _ _)) (Nat.le_max_left _ _)) (xad _)
theorem zjT(h:TiL l d b):Ti (zS l) (d+1) (b+0+4):=Ti.node (b:=b) (m:=0) (k:=3) (by simp[T.one,knd,nmd,kdn,T.kind,T.name,T.kids]) rfl h (xad _)
theorem za8(a:n≠⟨#[]⟩)(e:n.size<=m)(h:TiL l d b)(f:1<=d):Ti (zG n l) (d+1) (m+4+b+0+4):=zjT (.cons (zjR a e) h f)
theorem zu7{n:Int}(a:inI n):((⟨#[117,115,101,32]⟩:ByteArray)++zE n).size<=24:=by
 rw[xai];have e:(⟨#[117,115,101,32]⟩:ByteArray).size=4:=rfl;have:=zi6 a;omega
theorem zjU{k:Int}(h:Ti t d b)(a:inI k):Ti (jy t k) (d+1) (b+0+24+4):=za7 h (vE (by show 4≠0;omega)) (zu7 a)
end
theorem zJx{x y:ByteArray}(h:sLt x y=true):sLt y x=false:=by
 rw[zfR,decide_eq_true_eq]at h;rw[zfR,decide_eq_false_iff_not];exact List.lt_asymm h
theorem zKi{a b:T}{d m:Nat}(g:Ti a d m)(j:Ti b d m)(e:a.txt=a.text)(f:b.txt=b.text):Ti (qH a b) (d+1) (m+(m+0)+0+4)/\(qH a b=.mk 9 ⟨#[]⟩ [a,b]\/qH a b=.mk 9 ⟨#[]⟩ [b,a]):=by
 have one:∀u v:T,(T.mk 9 ⟨#[]⟩ [u,v]).one=true:=fun u v=>by simp[T.one,knd,nmd,kdn,T.kind,T.name,T.kids]
 unfold qH;split
 ·rename_i h;rw[e,f]at h;exact⟨Ti.node (b:=m+(m+0)) (m:=0) (one _ _) (by simp[vQ,zJx h]) (.cons j (.cons g .nil (xad _)) (xad _)) (xad _),.inr rfl⟩
 ·rename_i h;rw[e,f,Bool.not_eq_true]at h;exact⟨Ti.node (b:=m+(m+0)) (m:=0) (one _ _) (by simp[vQ,h]) (.cons g (.cons j .nil (xad _)) (xad _)) (xad _),.inl rfl⟩
structure Hd.sbs(h:Hd):Prop where
 A:h.A.sb
 B:h.B.sb
 W:h.W.sb
 off:h.off.sb
 ans:h.ans.sb
 ch:h.ch.sb
 base:(h.key 0).sb
theorem zBk{n:Int}(a:0<=n)(h:n<1000000000):(zE n).size<=18:=by
 obtain⟨m,rfl⟩:=Int.eq_ofNat_of_zero_le a;rw[zlS];have e:(10:Nat)^(8+1)=1000000000:=by decide
 have:=zcy 8 m (by omega);omega
section
variable{S:AS}
end
theorem znu{tag:ByteArray}{n:Int}{t:T}(f:tag≠⟨#[]⟩)(h:t.kind≠3):zX tag n t=none:=by
 unfold zX;rw[if_neg];rintro⟨_,a,_⟩;rw[zfZ (fun e=>h e.1)]at a;exact f a.symm
theorem zGh{tag:ByteArray}{n:Nat}{l:List T}(h:tag≠⟨#[]⟩)(a:l.length=n):kG tag n (zG tag l,0)=(l,0):=by
 unfold kG;rw[if_pos rfl];simp only;rw[zba h (by rw[a])]
theorem zjL{k:T}{u:Int}{tag:ByteArray}{n:Nat}{l:List T}(h:tag≠⟨#[]⟩)(a:l.length=n):qP k u (jk k u (zG tag l)) tag n=(l,0):=by
 unfold qP;rw[zu5,zGh h a]
theorem zyw{k t:T}{n:ByteArray}:kP k n (kJ k n t)=(t,0):=by
 unfold kP kJ;rw[zjL (n:=2) (by decide) rfl];show(if(yU n).same (yU n)then(t,(0:Int))else(tZ,6))=_;rw[T.same_self];rfl
theorem ztw{k b p c:T}:vP k b (km k b p c)=(p,c,0):=by
 unfold vP km;rw[zjL (n:=3) (by decide) rfl];show(if(yC b).same (yC b)then(p,c,(0:Int))else(tZ,tZ,6))=_;rw[T.same_self];rfl
theorem zyL{e a sub:T}:qI e (zfY (zek e a) a sub)=(kK sub a,0):=by
 unfold qI zfY;rw[zba (n:=2) (by decide) rfl];show vo (jk a 11 (zG vp [sub])) (qP e 2 (zek e a) qL 1)=_;unfold zek;rw[zjL (n:=1) (by decide) rfl];show zgg a (qP a 11 (jk a 11 (zG vp [sub])) vp 1)=_;rw[zjL (n:=1) (by decide) rfl];rfl
theorem zke{a b c:T}:qY (zai a b c)=some (a,b,c):=by
 unfold qY zai;rw[zba (n:=3) (by decide) rfl];rfl
theorem zkm{a b:ByteArray}(e:a≠⟨#[]⟩)(f:b≠⟨#[]⟩):jL (wO a b)=some (a,b):=by
 unfold jL wO;rw[zba (n:=2) (by decide) rfl,xae,zzc,znx,znx];show(if a=⟨#[]⟩\/b=⟨#[]⟩then none else some (a,b))=_;rw[if_neg (by rintro(h|h);exact e h;exact f h)]
theorem zA9{tag:ByteArray}{l:List T}(h:wd≠tag):yR (zG tag l)=false:=by
 unfold yR;rw[zu4 h];rfl
theorem zA8{t:T}(h:t.kind≠3):yR t=false:=by
 unfold yR;rw[znu (by decide) h];rfl
theorem zHB{tag:ByteArray}{l:List T}(h:wW≠tag):zaZ (zG tag l)=none:=by
 unfold zaZ;rw[zu4 h];rfl
theorem zto{n:Int}(h:1<=n/\n<=1000):zaZ (jx n)=some n:=by
 unfold zaZ jx;rw[zba (n:=1) (by decide) rfl,xae,zHv,zsK (by unfold inI;omega) (zBk (by omega) (by omega))];show(if n<1 then none else some n)=_;rw[if_neg (by omega)]
section
variable{c:Cl}{K:Kd}{p:T}{now:Int}
structure Fz(c:Cl)(K:Kd):Prop where
 on:c.on=true
 arm:qI K.key c.wrap=(c.ak,0)
 body:c.body=wO c.name c.nonce
 nm:c.name≠⟨#[]⟩
 nn:c.nonce≠⟨#[]⟩
 un:K.u.name=c.name
 fl:K.u.fails=0
theorem zF9(h:Fz c K):K.opens (c.says p zw) now=(⟨c.ak,c.body,⟨c.name,c.nonce,[],zw,0⟩,K.u,now⟩,p,0):=by
 unfold Kd.opens Cl.says;rw[zke];show K.opB (zai c.body c.wrap (km c.ak c.body p zw)) c.body c.wrap (km c.ak c.body p zw) now (jL c.body)=_;generalize zai c.body c.wrap (km c.ak c.body p zw)=m;rw[show jL c.body=some (c.name,c.nonce)by rw[h.body];exact zkm h.nm h.nn];show K.opA m c.body (km c.ak c.body p zw) c.name c.nonce now (qI K.key c.wrap)=_;rw[h.arm];unfold Kd.opA;rw[if_pos rfl,ztw];unfold Kd.opR;rw[if_pos rfl,if_pos h.un,if_pos zrQ];unfold Kd.opF;rw[if_neg (by rw[h.fl];omega)]
theorem zGa(h:Fz c K){q:T}{ck:Ck}(a:yR q=false)(e:jg K.cookies q now=(ck,0))(f:ck.client=c.name)(g:ck.nonce=c.nonce)(j:jK ck.done K.u.set=true):
 K.opens (c.says p q) now=(⟨c.ak,c.body,ck,K.u,now⟩,p,0):=by
 unfold Kd.opens Cl.says;rw[zke];show K.opB (zai c.body c.wrap (km c.ak c.body p q)) c.body c.wrap (km c.ak c.body p q) now (jL c.body)=_;generalize zai c.body c.wrap (km c.ak c.body p q)=m;rw[show jL c.body=some (c.name,c.nonce)by rw[h.body];exact zkm h.nm h.nn];show K.opA m c.body (km c.ak c.body p q) c.name c.nonce now (qI K.key c.wrap)=_;rw[h.arm];unfold Kd.opA;rw[if_pos rfl,ztw];unfold Kd.opR;rw[if_pos rfl,if_pos h.un,if_neg (by rw[a];simp),e];unfold Kd.opC;rw[if_pos rfl,if_pos ⟨f,g,j⟩];unfold Kd.opF;rw[if_neg (by rw[h.fl];omega)]
end
def zuW(s:ByteArray):UInt8:=if s=zr then 57 else if s=yg then 51 else 53
def prf(c:Cl)(nx:ByteArray)(s x:T)(now:Int):T:=
 if nx=zr then za6 c.ak c.key c.body now else if nx=yg then znl c.ak s (ji c.seed 2)else zG yo [yT x c.key,zaj x s c.key (yT s c.key) (yT x c.key) c.body]
def prB(c:Cl)(nx:ByteArray)(s x:T):T:=if nx=zr then c.key else if nx=yg then jy c.ak 46 else zbb x s c.key (yT s c.key) (yT x c.key) c.body 0
theorem zeu:zr≠yg:=by decide
theorem zev:zr≠yo:=by decide
theorem zs2:yg≠yo:=by decide
section
variable{c:Cl}{nx:ByteArray}{s x:T}{now:Int}
theorem zte:prf c zr s x now=za6 c.ak c.key c.body now:=if_pos rfl
theorem zGC:prf c yg s x now=znl c.ak s (ji c.seed 2):=by unfold prf;rw[if_neg zeu.symm,if_pos rfl]
theorem zGD:prf c yo s x now=zG yo [yT x c.key,zaj x s c.key (yT s c.key) (yT x c.key) c.body]:=by unfold prf;rw[if_neg zev.symm,if_neg zs2.symm]
end
def zns:Tk:=⟨1,3,10,0,0,5⟩
theorem j2:inI 2:=by unfold inI;omega
section
variable{c:Cl}{nx:ByteArray}{s x:T}{t0 now:Int}{ck:Ck}{u:Us}
end
theorem Ti.up{t:T}{d b d' b':Nat}(h:Ti t d b)(a:d<=d')(e:b<=b'):Ti t d' b':=⟨h.s,h.o,xaD h.d a,xaD h.b e⟩
structure Tz(c:Cl)(K:Kd):Prop where
 a:Ti c.ak 6 4000
 k:Ti c.key 6 4000
 b:Ti c.body 6 4000
 d:Ti c.seed 6 4000
 u:Ti K.u.key 6 4000
 w:c.wrap.bulk<=4000
 ck:K.cookies.fit=true
 cb:K.cookies.bulk<=4000
 kb:K.key.bulk<=4000
 n:c.name.size<=1000
 m:c.nonce.size<=1000
def atT(s:T):Prop:=∃n:ByteArray,s=zB n/\n≠⟨#[]⟩/\n.size<=1000
theorem atT.ti{s:T}(h:atT s):Ti s 1 1004:=by obtain⟨n,rfl,a,e⟩:=h;exact zuZ a e
theorem atT.fit{s:T}(h:atT s):s.fit=true:=by have:=h.ti;exact ziL.2 ⟨this.s,this.o,xaD this.d (by omega)⟩
theorem zkF{n:Int}(h:0<=n/\n<=1000000):atT (zQ n):=by
 have a:=vN (n:=n) (by omega) (by omega);have e:(kdB++zE n).size=4+(zE n).size:=by rw[xai];rfl
 exact⟨_,rfl,vE (by show 4≠0;omega),by omega⟩
theorem zdD{f:ByteArray}(a:f.size<=90):((⟨#[106,111,105,110,32]⟩:ByteArray)++f)≠⟨#[]⟩/\((⟨#[106,111,105,110,32]⟩:ByteArray)++f).size<=95:=⟨vE (by show 5≠0;omega),by
 rw[xai];have:(⟨#[106,111,105,110,32]⟩:ByteArray).size=5:=rfl;omega⟩
theorem zKh{a b:T}{f g:ByteArray}{m:Nat}(e:Ti a 6 m)(j:Ti b 6 m)(k:f.size<=90)(o:g.size<=90):Ti (kL a b f g) 9 (2*m+1000):=by
 obtain⟨q,j2⟩:=zdD k;obtain⟨j3,r⟩:=zdD o;exact(zjS (zjT (d:=7) (.cons (za7 e q j2) (.cons (za7 j j3 r) .nil (by omega)) (by omega)))).up (by omega) (by omega)
theorem zs1:((⟨#[111,116,112,32]⟩:ByteArray)++zE 2)≠⟨#[]⟩/\((⟨#[111,116,112,32]⟩:ByteArray)++zE 2).size<=24:=⟨vE (by show 4≠0;omega),by
 rw[xai];have a:(⟨#[111,116,112,32]⟩:ByteArray).size=4:=rfl;have:=zi6 j2;omega⟩
section
variable{c:Cl}{K:Kd}{nx:ByteArray}{s x:T}{t0:Int}
theorem zGE(h:Tz c K)(E:isM nx)(B:nx≠zr->atT s)(F:atT x)(G:inI t0):Ti (prf c nx s x t0) 40 200000:=by
 have i1:inI 1:=by unfold inI;omega
 have i45:inI 45:=by unfold inI;omega
 have i54:inI 54:=by unfold inI;omega
 have i60:inI 60:=by unfold inI;omega
 have C:=zjS h.b;rcases E with rfl|rfl|rfl
 ·rw[zte];have H:Ti (qG t0) 1 (21+4):=zjR zny (by rw[zgE];have:=zi6 G;omega);have I:=za8 (n:=ko) (m:=4) (d:=8) (by decide) (xad _) (.cons H (.cons C .nil (by omega)) (by omega)) (by omega);have q:=zjU (zKh (f:=zbd) (g:=zbA) h.a h.k (by show 20<=90;omega) (by show 17<=90;omega)) i54;exact(za8 (n:=zr) (m:=9) (d:=30) (by decide) (xad _) (.cons (znp q I) .nil (by omega)) (by omega)).up (by omega) (by omega)
 ·rw[zGC];have j:=(B zeu.symm).ti;have J:=za7 h.d zs1.1 zs1.2;have r:=za8 (n:=vq) (m:=4) (d:=10) (by decide) (xad _) (.cons j (.cons J .nil (by omega)) (by omega)) (by omega);exact(za8 (n:=yg) (m:=3) (d:=30) (by decide) (xad _) (.cons (znp (zjU h.a i45) r) .nil (by omega)) (by omega)).up (by omega) (by omega)
 ·rw[zGD];have j:=(B zev.symm).ti;have v:=F.ti;obtain⟨w,_⟩:=zKi v j (v.sb (by omega) (by omega)).1.txt (j.sb (by omega) (by omega)).1.txt;have e:=za7 (n:=⟨#[119,111,114,100]⟩) (m:=4) h.k (by decide) (xad _);have y:=znq (znr j) e;have o:=znq (znr v) e;have r:=zjS (zjT (d:=10) (.cons w (.cons e (.cons y (.cons o (.cons C .nil (by omega)) (by omega)) (by omega)) (by omega)) (by omega)));have A:=zjU (zjU r i1) i60;have M:=znp A (za8 (n:=zbt) (m:=6) (d:=1) (by decide) (xad _) .nil (xad _));exact(za8 (n:=yo) (m:=5) (d:=30) (by decide) (xad _) (.cons o (.cons M .nil (by omega)) (by omega)) (by omega)).up (by omega) (by omega)
theorem wh{n:ByteArray}{l:List T}:(zG n l).bulk=n.size+yF l+8:=by unfold zG;rw[zfM,yA,zc2];omega
theorem zKs{k:T}{n:Int}(a:inI n):(jy k n).bulk<=k.bulk+28:=by
 unfold jy qq;rw[zab,yA,jA];have:=zu7 a;omega
theorem zee{k t:T}{n:Int}(a:inI n):(jk k n t).bulk<=k.bulk+t.bulk+32:=by
 unfold jk;rw[zoP];have:=zKs (k:=k) a;omega
theorem ziY{t:T}:(yC t).bulk=t.bulk+4:=by
 unfold yC;rw[zab,yA,jA,n0]
 try omega
theorem zf5{s:ByteArray}:(yU s).bulk=s.size+5:=by
 unfold yU;rw[zab,jA,zgE];try omega
theorem zJE(h:Tz c K){p q:T}:(c.says p q).bulk<=p.bulk+q.bulk+20000:=by
 have f:=h.a.b;have g:=h.b.b;have j:=h.w;have e:=zee (k:=c.ak) (t:=zG qx [yC c.body,p,q]) (n:=51) i51;rw[wh,yA,yA,yA,jA,ziY]at e;have o:qx.size=4:=rfl;have r:qX.size=6:=rfl;show(zG qX [c.body,c.wrap,km c.ak c.body p q]).bulk<=_;rw[wh,yA,yA,yA,jA];show qX.size+(c.body.bulk+(c.wrap.bulk+((jk c.ak 51 (zG qx [yC c.body,p,q])).bulk+0)))+8<=_;omega
theorem znT(h:Tz c K){t:T}:(kJ c.ak c.nonce t).bulk<=t.bulk+6000:=by
 have f:=h.a.b;have g:=h.m;have e:=zee (k:=c.ak) (t:=zG kQ [yU c.nonce,t]) (n:=52) i52;rw[wh,yA,yA,jA,zf5]at e;have j:kQ.size=6:=rfl;show(jk c.ak 52 (zG kQ [yU c.nonce,t])).bulk<=_;omega
theorem zoj(h:Tz c K){done:List ByteArray}(f:zaw done<=1000)(g:s.bulk<=1004)(a:inI t0):(yJ K.cookies ⟨c.name,c.nonce,done,s,t0⟩).bulk<=20000:=by
 have e:=zJI (key:=K.cookies) (c:=⟨c.name,c.nonce,done,s,t0⟩) a;have:=h.cb;have:=h.n;have:=h.m;simp only at e;omega
theorem zzJ(h:Tz c K){done:List ByteArray}(a:s.fit=true):(yJ K.cookies ⟨c.name,c.nonce,done,s,t0⟩).kind=4:=by
 rw[zuC,h.ck,a];rfl
end
theorem zsE:zw.fit=true:=by
 have h:Ti zw 2 12:=(za8 (n:=wd) (m:=4) (d:=1) (by decide) (xad _) .nil (xad _)).up (by omega) (by omega);exact ziL.2 ⟨h.s,h.o,xaD h.d (by omega)⟩
def sOk(nx:ByteArray)(s:T):Prop:=if nx=zr then s=zw else atT s
theorem sOk.fit{nx:ByteArray}{s:T}(h:sOk nx s):s.fit=true:=by
 unfold sOk at h;split at h
 ·rw[h];exact zsE
 ·exact h.fit
theorem sOk.at{nx:ByteArray}{s:T}(h:sOk nx s)(a:nx≠zr):atT s:=by unfold sOk at h;rw[if_neg a]at h;exact h
theorem sOk.bulk{nx:ByteArray}{s:T}(h:sOk nx s):s.bulk<=1004:=by
 unfold sOk at h;split at h
 ·rw[h];show(zw.bulk)<=_;decide
 ·exact h.ti.b
theorem zJy{K:Kd}{nx:ByteArray}(a:0<=K.n/\K.n<=900000):sOk nx (K.offS nx):=by
 unfold sOk Kd.offS;split
 ·rfl
 ·exact zkF (by omega)
def zve(c:Cl)(l:List ByteArray):Prop:=(yg∈l->c.counter=3)/\(yg∉l->c.counter=2)
structure Mid(c:Cl)(K:Kd)(m:T)(done:List ByteArray)(nx:ByteArray)(rest:List ByteArray)(t0:Int):Prop where
 fz:Fz c K
 tz:Tz c K
 dn:c.done=true
 set:K.u.set=done++nx::rest
 im:∀d∈done++nx::rest,isM d
 nd:nx∉done/\nx∉rest/\∀d∈rest,d∉done
 ndr:rest.Nodup
 rm:K.room=16
 ca:∀e∈K.cache,∃d∈done,e.1.data[3]?=some (zuW d)
 cl:K.cache.length<=done.length
 ms:c.marks=(done++[nx]).map fun d=>(d,c.nonce)
 len:done.length+rest.length<=2
 tk:yg∈nx::rest->K.u.tok=zns
 ct:zve c (done++[nx])
 sp:nx=yo->K.u.key=c.key
 ex:∃s x,m=c.says (prf c nx s x t0) (yJ K.cookies ⟨c.name,c.nonce,done,s,t0+100⟩)/\c.base=prB c nx s x/\sOk nx s/\atT x
 t:0<=t0/\t0<=10000000
structure zKJ(K K1:Kd)(done:List ByteArray)(nx:ByteArray)(rest:List ByteArray):Prop where
 key:K1.key=K.key
 cookies:K1.cookies=K.cookies
 room:K1.room=16
 n:K1.n=K.n
 un:K1.u.name=K.u.name
 uk:K1.u.key=K.u.key
 us:K1.u.set=K.u.set
 ud:K1.u.seed=K.u.seed
 uf:K1.u.fails=0
 tk:yg∈rest->K1.u.tok=zns
 ca:∀e∈K1.cache,∃d∈done++[nx],e.1.data[3]?=some (zuW d)
 cl:K1.cache.length<=done.length+1
section
variable{c:Cl}{K:Kd}{m:T}{done rest:List ByteArray}{nx:ByteArray}{t0 now:Int}
end
section
variable{c:Cl}{K K1:Kd}{nx:ByteArray}{s x:T}{now:Int}{D:List ByteArray}
theorem zFW(h:Tz c K){q:T}(g:isM nx)(f:sOk nx s)(r:q.bulk<=20000):(kJ c.ak c.nonce (zG jQ [jH K.u nx s,q])).bulk<=60000:=by
 have j:=znT h (t:=zG jQ [jH K.u nx s,q]);have z:jQ.size=4:=rfl;rw[wh,yA,yA,jA,z]at j;have k:=f.bulk;have v:(jH K.u nx s).bulk<=10000:=by
  unfold jH;rcases g with rfl|rfl|rfl
  ·rw[if_pos rfl,wh,jA];show 9+0+8<=_;omega
  ·rw[if_neg zeu.symm,if_neg zs2];unfold wP;rw[wh,yA,jA];show 3+_+8<=_;omega
  ·rw[if_neg zev.symm,if_pos rfl];have o:=(f.at zev.symm).ti;have a:=za7 (n:=⟨#[119,111,114,100]⟩) (m:=4) h.u (by decide) (xad _);have e:=znq (znr o) a;exact((za8 (n:=yo) (m:=5) (d:=20) (by decide) (xad _) (.cons e .nil (by omega)) (by omega)).up (d':=40) (b':=10000) (by omega) (by omega)).b
 omega
theorem zFV{X:Tlk}(g:X.ak=c.ak)(a:X.c.nonce=c.nonce)(e:X.c.client=c.name)(j:X.u=K.u)(k:X.c.done=D)(o:X.now=now)(f:K1.cookies=K.cookies):
 K1.offT X nx=kJ c.ak c.nonce (zG jQ [jH K.u nx (K1.offS nx),yJ K.cookies ⟨c.name,c.nonce,D,K1.offS nx,now+100⟩]):=by
 obtain⟨ak,body,⟨q,r,v,y,up⟩,u,w⟩:=X;simp only at g a e j k o;subst g a e j k o;unfold Kd.offT zsL Kd.offC;rw[f]
theorem zHE{X:Tlk}{base:T}(h:X.c.done.length=X.u.set.length):K1.reqD X base=(K1.tktT X base,K1.tktK,some (X.c.client,X.c.nonce,X.c.done,zQ (K1.n+1))):=by
 unfold Kd.reqD;rw[if_pos h]
end
structure Ini(c:Cl)(K:Kd)(m:T)(nx:ByteArray)(rest:List ByteArray):Prop where
 fz:Fz c K
 tz:Tz c K
 set:K.u.set=nx::rest
 im:∀d∈nx::rest,isM d
 nd:nx∉rest
 ndr:rest.Nodup
 rm:K.room=16
 ca:K.cache=[]
 ms:c.marks=[]
 len:rest.length<=2
 tk:K.u.tok=zns
 cn:c.counter=2
 m:m=c.says zw zw
section
variable{c:Cl}{K:Kd}{m:T}{done rest:List ByteArray}{nx nx2:ByteArray}{t0 now:Int}{x:T}
theorem zvb:∀{l:List ByteArray},(∀d∈l,isM d)->yF (jp l)<=l.length*14
 |[],_=>by show yF []<=_;rw[jA];omega
 |s::l,h=>by
  have ih:=zvb (l:=l) fun d a=>h d (by simp[a]);have e:s.size<=9:=by
   rcases h s (by simp)with rfl|rfl|rfl
   ·show 9<=9;omega
   ·show 3<=9;omega
   ·show 5<=9;omega
  show yF (yU s::jp l)<=_;rw[yA,zf5,xaI];omega
end
structure Rnd(c:Cl)(K:Kd)(m:T)(now:Int)(x:T):Prop where
 mlo:m.lo
 rlo:(K.req m now).1.lo
 e:(c.take (K.req m now).1 now x).2.2=0
section
variable{set:List ByteArray}{i:Nat}{c:Cl}{K:Kd}{m x:T}{t0 now:Int}
end
structure KD(K:Kd)(set:List ByteArray):Prop where
 key:K.key=zB kc
 cookies:K.cookies=zB vH
 u:K.u=us0 set
 room:K.room=16
 cache:K.cache=[]
theorem zjQ{n:ByteArray}(h:n≠⟨#[]⟩)(a:n.size<=1000):Ti (zB n) 1 1004:=zuZ h a
theorem zu0{p n:ByteArray}(h:p≠⟨#[]⟩)(hp:p.size<=1000)(a:n.size<=1000):Ti (zak (zB p) n) 6 4000:=
 (za7 (n:=zfy++n) (m:=1005) (zjQ h hp) (vE (by show 5≠0;omega)) (by rw[xai];have:zfy.size=5:=rfl;omega)).up (by omega) (by omega)
section
variable{S:AS}
theorem zIW{ak o c:T}(g:o.bb):call 282 [.agg ak.cells,.agg o.cells,.agg c.cells] S=some (zt (zcP ak o c),S):=by
 rw[zi zwO rfl (by simp) rfl];have a:=fun S=>@s79 S yg 1 o (by omega);unfold zcP;cases e:zX yg 1 o with
 |none=>
  rw[e]at a;unfold yg at a;simp[f282,zk8,a,zF,zt,jU];rfl
 |some l=>
  rw[e]at a;obtain⟨x,rfl⟩:=zbz (jO (n:=1) e).1;unfold yg at a;have f:=fun S=>@zbI S ak (zG vq [x,c]) 45 i45 (by omega);unfold vq at f;simp[f282,zk8,a,zF,vT,f,zt,zj];rfl
theorem zIX{u b o x:T}(y:o.lo)(A:x.lo):call 284 [.agg u.cells,.agg b.cells,.agg o.cells,.agg x.cells] S=some (zd3 (zes u b o x),S):=by
 rw[zi zwQ rfl (by simp) rfl];have a:=fun S=>@s79 S yo 1 o (by omega);unfold zes;cases f:zX yo 1 o with
 |none=>
  rw[f]at a;unfold yo at a;simp[f284,zhC,a,zF,zd3,jU];rfl
 |some l=>
  rw[f]at a;obtain⟨B,C⟩:=jO (n:=1) f;obtain⟨l,rfl⟩:=zbz B;unfold yo at a;have v:l.lo:=y.kid (C l (by simp));have w:=fun S=>@zum S u l v.bb;have E:=zkL (u:=u) v;have F:=fun S=>@zm0 S x u;show _=some (zd3 (zj9 u b x l (j9 u l)),S);unfold zj9;generalize j9 u l=r at *;by_cases e:r.2=0
  ·rw[if_pos e];have G:=fun S=>@zun S x r.1 A E;have H:=fun S=>@zjH S (qH x r.1) u l (yT x u) b 1 i1 (by omega);have g:=fun S=>@zjH S (qH x r.1) u l (yT x u) b 0 i0 (by omega);have I:=fun S k=>@zuo S k;have j:jk (zal (qH x r.1) (tWd u) l (yT x u) (yC b) 1) 60 (zG zbt [])=zaj x r.1 u l (yT x u) b:=rfl;have q:zal (qH x r.1) (tWd u) l (yT x u) (yC b) 0=zbb x r.1 u l (yT x u) b 0:=rfl;simp[f284,zhC,a,zF,vT,w,zt,e,F,G,H,g,I,j,q,zd3,zj];rfl
  ·rw[if_neg e];simp[f284,zhC,a,zF,vT,w,zt,e,zd3,jU];rfl
end
def Cl.drow(c:Cl)(a:T)(e:Bool)(st:T)(f:Bool)(g:AV):List AV:=
 [.sc (.string c.name),.sc (.int .i64 c.key.kind),.sc (.string c.key.name),zh c.key.kids,.sc (.int .i64 c.seed.kind),.sc (.string c.seed.name),zh c.seed.kids,.sc (.int .i64 c.counter),
  .sc (.int .i64 c.ticket.kind),.sc (.string c.ticket.name),zh c.ticket.kids,.sc (.int .i64 c.host.kind),.sc (.string c.host.name),zh c.host.kids,
  .b c.on,.sc (.string c.nonce),.sc (.int .i64 c.body.kind),.sc (.string c.body.name),zc c.z1 c.body,.sc (.int .i64 c.wrap.kind),.sc (.string c.wrap.name),zc c.z1 c.wrap,.sc (.int .i64 c.ak.kind),.sc (.string c.ak.name),zc c.z1 c.ak,
  .sc (.int .i64 a.kind),.sc (.string a.name),zc e a,.b c.done,g,.sc (.int .i64 st.kind),.sc (.string st.name),zc f st,.b c.ended]
structure Dz where
 bt:T:=tZ
 zb:Bool:=true
 st:T:=tZ
 zs:Bool:=true
 mv:AV:=.lst 0 true []
abbrev Dz.row(z:Dz)(c:Cl):List AV:=c.drow z.bt z.zb z.st z.zs z.mv
structure zvg(S:AS)(id:Nat)(c:Cl)(z:Dz):Prop where
 hh:S.heap id=some (.rows 34 [z.row c])
 gv:GV S 2 z.mv (Cl.mrow c.marks)
 ro:S.ro<=id
 lt:id<S.n
 ne:¬yO z.mv id
 hb:c.done=true->z.zb=false/\z.bt=c.base
 hs:c.ended=true->z.zs=false/\z.st=c.session
 zbk:z.zb=true->z.bt=tZ
section
variable{S:AS}{id:Nat}{c:Cl}{z:Dz}
section
variable(h:zvg S id c z)
include h
end
end
def xxB:ByteArray:=⟨#[120]⟩
theorem zkf{n:ByteArray}(h:n.size<=1000000):(zB n).lo:=by show(zB n).bulk<=_;rw[zcT];omega
section
variable{S:AS}
theorem zKE:atT (zB xxB):=⟨xxB,rfl,by decide,by show 1<=_;omega⟩
theorem znA:(zB xxB).lo:=zkf (by show 1<=_;omega)
end
def vh(n:ByteArray):ByteArray:=⟨#[115,117,98,32]⟩++n
def cq(name nonce:ByteArray):Cl:=(Cl.new name (zB (pwN name)) (zB (sdN name)) 2 zu1 jY).start nonce (zB (vh nonce))
def zN(n:Int):ByteArray:=⟨#[110]⟩++zE n
structure Sn where
 offer:T
 cookie:T
 secret:T
def Sn.row(o:Sn):List AV:=[.sc (.int .i64 o.offer.kind),.sc (.string o.offer.name),zh o.offer.kids,.sc (.int .i64 o.cookie.kind),.sc (.string o.cookie.name),zh o.cookie.kids,.sc (.int .i64 o.secret.kind),.sc (.string o.secret.name),zh o.secret.kids]
def zdM:Sn:=⟨zw,zw,zw⟩
def jW(who n kind at_ back:Int)(tcs:List AV):List AV:=.sc (.int .i64 who)::.sc (.int .i64 n)::.sc (.int .i64 kind)::.sc (.int .i64 at_)::.sc (.int .i64 back)::.i 0::.i 0::(tcs++[.b false])
def stR(a e f:AV)(now:Int)(g:List AV):List AV:=a::e::f::.sc (.int .i64 now)::g
def zbN(who:Int):ByteArray:=if who=0 then naB else nbB
def zga(kind at_:Int)(tcs:List AV)(c:Cl)(o:Sn)(now:Int)(pd:T):Prop:=
 (kind=0/\pd=zw)\/(kind=1/\pd=za6 c.ak c.key c.body (now+at_%16-8))\/(kind=2/\pd=(zcP c.ak (wP o.secret) (ji c.seed (at_%32))).1/\(wP o.secret).bb)\/
 (kind=3/\(zes c.key c.body o.offer (zB xxB)).2.2=0/\pd=(zes c.key c.body o.offer (zB xxB)).1/\o.offer.lo)\/(kind=4/\pd.cnt<=100/\pd.fits/\tcs=pd.cells)
section
variable{S:AS}
theorem zGy{n:Nat}(h:0<n):pev (.bin .rem) [.i 0,.sc (.int .i64 (n:Int))]=some (.i 0):=by
 have:¬(n:Int)=0:=by omega
 simp[pev,vL,this];omega
theorem zs8{a:Int}(h:0<=a/\a<=3):pev (.bin .and) [.sc (.int .i64 a),.i 3]=some (.sc (.int .i64 a)):=by
 rw[show pev (.bin .and) [.sc (.int .i64 a),.i 3]=some (.sc (.int .i64 (a%4)))from zaW (m:=2) (by omega)];rw[Int.emod_eq_of_lt (by omega) (by omega)]
theorem zr2{s:Nat}{pa pb lv:AV}{now:Int}{ls:List AV}{l:List Sn}{who n kind at_ back:Int}{tcs:List AV}{o:Sn}{pd:T}(hs:S.heap s=some (.rows 7 [stR pa pb lv now ls]))(hg:GV S 9 lv (l.map Sn.row))(hl:l.length<=1000)(hw:who=0\/who=1)(hn:0<=n/\n<=3)
 (ht:tcs.length=3/\tcs.all AV.isCell=true) (hb:(back=0/\l.getLast?=some o)\/(back=7/\o=zdM)) (bj:0<=now/\now<=1000000) (hp:zga kind at_ tcs (cq (zbN who) (zN n)) o now pd):
 call 167 [.ptr s 0 0,.agg (jW who n kind at_ back tcs)] S=some (.agg ((cq (zbN who) (zN n)).says pd o.cookie).cells,S):=by
 rw[z8 a167 (by simp) rfl];obtain⟨t0,t1,t2,rfl⟩:∃a b c,tcs=[a,b,c]:=by
  match tcs,ht.1 with
  |[a,b,c],_=>exact⟨a,b,c,rfl⟩
 have ba:=ht.2;have bk:=vN (n:=n) (by omega) (by omega);have W:=zs8 hn;have g:=fun S=>@zbH S n (by omega) (by omega);have j:=fun S s=>@zfQ S s;have X:pev (.bin .add) [.s ⟨#[110]⟩,.sc (.string (zE n))]=some (.sc (.string (zN n))):=yz (by show 1+_<=_;omega);have bm:(zN n).size=1+(zE n).size:=by unfold zN;rw[xai];rfl
 have Y:pev (.bin .add) [.s ⟨#[115,117,98,32]⟩,.sc (.string (zN n))]=some (.sc (.string (vh (zN n)))):=yz (by show 4+_<=_;omega);have Z:∀d rg,ze (.ld none 1 false) d rg S [.ptr s 0 2]=some (lv,none,S):=fun d rg=>by rw[zY hs];rfl
 have l2:∀d rg,ze (.ld none 1 false) d rg S [.ptr s 0 3]=some (.sc (.int .i64 now),none,S):=fun d rg=>by rw[zY hs];rfl
 have V:=hg.len;rw[xaH]at V;have lr:=hg.reg;have e:=fun S (a b:T)=>@zmO S a b;have B:=fun S (a b c:T)=>@s71 S a b c;have k:=fun S (a b c:T)=>@zIY S a b c;have f:=fun S (a b:T)=>@zIZ S a b;have r:=fun S (a b c d:T)=>@zI0 S a b c d;have ap:∀(nm:ByteArray),nm.size=1->(∀S,call 145 [.agg (zB (pwN nm)).cells,.sc (.string nm)] S=some (.agg (zak (zB (pwN nm)) nm).cells,S))/\(∀S,call 77 [.sc (.string nm),.sc (.string (zN n))] S=some (.agg (wO nm (zN n)).cells,S))/\
  pev (.bin .add) [.s ⟨#[112,97,115,115,119,111,114,100,32]⟩,.sc (.string nm)]=some (.sc (.string (pwN nm)))/\pev (.bin .add) [.s ⟨#[115,101,101,100,32]⟩,.sc (.string nm)]=some (.sc (.string (sdN nm))):=fun nm hz=>
  ⟨fun S=>zt4 (by omega),fun S=>s77 (by omega) (by omega),yz (by show 9+_<=_;omega),yz (by show 5+_<=_;omega)⟩
 have aq:=@zs7 at_;have ar:=@zGw at_;have bn:0<=at_%16/\at_%16<16:=⟨Int.emod_nonneg _ (by omega),Int.emod_lt_of_pos _ (by omega)⟩;have bo:0<=at_%32/\at_%32<32:=⟨Int.emod_nonneg _ (by omega),Int.emod_lt_of_pos _ (by omega)⟩;have bc:∀(nm:ByteArray),nm.size=1->zga kind at_ [t0,t1,t2] (cq nm (zN n)) o now pd->∀(w:Int),(w=0/\nm=naB\/w=1/\nm=nbB)->
  fin qb.res (zH AA qb.body (st qb.ntmps (ini [.ptr s 0 0,.agg (jW w n kind at_ back [t0,t1,t2])]) (fun _=>none) S) [])=some (.agg ((cq nm (zN n)).says pd o.cookie).cells,S):=by
  intro nm hz hp w hw;obtain⟨v,E,p3,p4⟩:=ap nm hz;have F:pev (.iaddr 1) [.lst 1 true [[.s ⟨#[97]⟩],[.s ⟨#[98]⟩],[.s ⟨#[99]⟩]],.sc (.int .i64 w)]=some (.iptr [.sc (.string nm)]):=by
   rcases hw with⟨rfl,rfl⟩|⟨rfl,rfl⟩<;>rfl
  have G:pev (.bin .and) [.sc (.int .i64 w),.i 255]=some (.sc (.int .i64 w)):=by
   rcases hw with⟨rfl,rfl⟩|⟨rfl,rfl⟩<;>rfl
  have H:pev (.bin .rem) [.sc (.int .i64 w),.i 3]=some (.sc (.int .i64 w)):=by
   rcases hw with⟨rfl,rfl⟩|⟨rfl,rfl⟩<;>rfl
  have as:∀p q,(cq nm (zN n)).says p q=zai (wO nm (zN n)) (zfY (zek (zB kc) jY) jY (zB (vh (zN n)))) (km (kK (zB (vh (zN n))) jY) (wO nm (zN n)) p q):=fun p q=>rfl;have be:(cq nm (zN n)).ak=kK (zB (vh (zN n))) jY:=rfl;have bf:(cq nm (zN n)).key=zak (zB (pwN nm)) nm:=rfl;have bg:(cq nm (zN n)).body=wO nm (zN n):=rfl;have bh:(cq nm (zN n)).seed=zB (sdN nm):=rfl;unfold zga at hp;rw[be,bf,bg,bh]at hp;rw[as];have au:t0.isCell=true/\t1.isCell=true/\t2.isCell=true:=by simpa using ba
  obtain⟨c0,c1,c2⟩:=au;have f:=fun S=>f S (zB kc) jY;have e:=fun S=>e S (zB (vh (zN n))) jY;unfold jY kc qL at *;have w1:IntKind.i64.wrap (now+at_%16)=now+at_%16:=w64 (by omega);have w2:IntKind.i64.wrap (now+at_%16-8)=now+at_%16-8:=w64 (by omega);have ab:=fun S (a b c:T)=>@zIA S a b c (now+at_%16-8) (by unfold inI;omega) (by omega);have ac:=fun S (a:T)=>@zmN S a (at_%32) (by unfold inI;omega) (by omega);have ad:=fun S (a:T)=>@zug S a;unfold jW;have C:=fun S (a c:T) (ho:(wP o.secret).bb)=>@zIW S a (wP o.secret) c ho;have y:=fun S (a b:T) (ho:o.offer.lo)=>@zIX S a b o.offer (zB xxB) ho znA;have A:=fun S (h:pd.fits)=>@zIy pd S h;unfold zt at C;unfold zd3 at y;unfold xxB at y hp;have pre:∀(kk:Int) (pq:T),kk=kk:=fun _ _=>rfl;rcases hb with⟨rfl,ae⟩|⟨rfl,rfl⟩
  ·
   have aa:0<l.length:=by
    cases l with
    |nil=>simp at ae
    |cons _ _=>simp
   have I:(0<(l.length:Int))=True:=eq_true (by omega);have J:(0<l.length)=True:=eq_true aa;have O:=@zGy l.length aa;have wl:IntKind.i64.wrap ((l.length:Int)-1)=((l.length-1:Nat):Int):=by rw[w64 (by omega)];omega
   have af:IntKind.i64.wrap ((l.length-1:Nat):Int)=((l.length-1:Nat):Int):=w64 (by omega);rcases hg with⟨ao,_⟩|⟨id,rfl,hh,_,_⟩
   ·simp at ao;rw[ao]at aa;simp at aa
   rw[xaH]at *;have ag:pev (.iaddr 9) [.arr id 9 0 l.length none,.sc (.int .i64 ((l.length-1:Nat):Int))]=some (.ptr id (l.length-1) 0):=by
    rw[zdW (by omega) (by omega)];simp
   have av:(l.map Sn.row)[l.length-1]?=some o.row:=by
    rw[xat,<-List.getLast?_eq_getElem?,ae];rfl
   have ah:∀d rg,ze (.ld none 9 true) d rg S [.ptr id (l.length-1) 0]=some (.agg o.row,none,S):=fun d rg=>by rw[zY hh,av];rfl
   have oc:o.row.all AV.isCell=true:=rfl;have ol:o.row.length=9:=rfl;have ot:List.take 9 o.row=o.row:=rfl;have o0:List.take 3 o.row=o.offer.cells:=by rw[zq];rfl
   have o3:List.take 3 (List.drop 3 o.row)=o.cookie.cells:=by rw[zq];rfl
   have o6:List.take 3 (List.drop 6 o.row)=o.secret.cells:=by rw[zq];rfl
   have ai:List.drop 6 o.row=o.secret.cells:=by rw[zq];rfl
   generalize o.row=OR at *;rcases hp with⟨rfl,rfl⟩|⟨rfl,rfl⟩|⟨rfl,rfl,aj⟩|⟨rfl,h0,rfl,al⟩|⟨rfl,P,Q,R⟩
   ·simp[qb,vu,zj,c0,c1,c2,G,H,F,W,g,X,Y,j,p3,v,e,E,Z,lr,V,I,J,O,wl,af,ag,ah,oc,ol,ot,o0,o3,o6,ai,f,k,r,B]
   ·simp[qb,vu,zj,c0,c1,c2,G,H,F,W,g,X,Y,j,p3,v,e,E,Z,l2,lr,V,I,J,O,wl,af,ag,ah,oc,ol,ot,o0,o3,o6,ai,aq,w1,w2,ab,f,k,r,B]
   ·have C:=fun S (a c:T)=>C S a c aj;simp[qb,vu,zj,c0,c1,c2,G,H,F,W,g,X,Y,j,p3,v,e,E,Z,l2,lr,V,I,J,O,wl,af,ag,ah,oc,ol,ot,o0,o3,o6,ai,ar,p4,ad,ac,C,f,k,r,B]
   ·have y:=fun S (a b:T)=>y S a b al;simp[qb,vu,zj,c0,c1,c2,G,H,F,W,g,X,Y,j,p3,v,e,E,Z,l2,lr,V,I,J,O,wl,af,ag,ah,oc,ol,ot,o0,o3,o6,ai,y,h0,f,k,r,B]
   ·have A:=fun S=>A S Q;have am:((pd.cnt:Int)<=100)=True:=eq_true (by omega);have an:(pd.cnt<=100)=True:=eq_true P;rw[zq]at R;cases R;rw[zq]at A;simp[qb,vu,zj,c0,c1,c2,G,H,F,W,g,X,Y,j,p3,v,e,E,Z,l2,lr,V,I,J,O,wl,af,ag,ah,oc,ol,ot,o0,o3,o6,ai,A,am,an,f,k,B];rw[<-zq pd];simp[r,B]
  ·
   have bi:zdM.cookie=zw:=rfl;have aw:zdM.secret=zw:=rfl;have ax:zdM.offer=zw:=rfl;have ay:∃b,decide (0<l.length)=b/\(0<l.length)=(b=true):=by
    by_cases h:0<l.length
    ·exact⟨true,by simp[h],by simp[h]⟩
    ·exact⟨false,by simp[h],by simp[h]⟩
   obtain⟨b,M,N⟩:=ay;rw[bi];rw[aw]at hp C;rw[ax]at hp y;cases b with
   |true=>
    rcases hp with⟨rfl,rfl⟩|⟨rfl,rfl⟩|⟨rfl,rfl,aj⟩|⟨rfl,h0,rfl,al⟩|⟨rfl,P,Q,R⟩
    ·simp[qb,vu,zj,c0,c1,c2,G,H,F,W,g,X,Y,j,p3,v,e,E,Z,lr,V,M,N,f,k,r,B]
    ·simp[qb,vu,zj,c0,c1,c2,G,H,F,W,g,X,Y,j,p3,v,e,E,Z,l2,lr,V,M,N,aq,w1,w2,ab,f,k,r,B]
    ·have C:=fun S (a c:T)=>C S a c aj;simp[qb,vu,zj,c0,c1,c2,G,H,F,W,g,X,Y,j,p3,v,e,E,Z,l2,lr,V,M,N,ar,p4,ad,ac,C,f,k,r,B]
    ·have y:=fun S (a b:T)=>y S a b al;simp[qb,vu,zj,c0,c1,c2,G,H,F,W,g,X,Y,j,p3,v,e,E,Z,l2,lr,V,M,N,y,h0,f,k,r,B]
    ·have A:=fun S=>A S Q;have am:((pd.cnt:Int)<=100)=True:=eq_true (by omega);have an:(pd.cnt<=100)=True:=eq_true P;rw[zq]at R;cases R;rw[zq]at A;simp[qb,vu,zj,c0,c1,c2,G,H,F,W,g,X,Y,j,p3,v,e,E,Z,l2,lr,V,M,N,A,am,an,f,k,B];rw[<-zq pd];simp[r,B]
   |false=>
    rcases hp with⟨rfl,rfl⟩|⟨rfl,rfl⟩|⟨rfl,rfl,aj⟩|⟨rfl,h0,rfl,al⟩|⟨rfl,P,Q,R⟩
    ·simp[qb,vu,zj,c0,c1,c2,G,H,F,W,g,X,Y,j,p3,v,e,E,Z,lr,V,M,N,f,k,r,B]
    ·simp[qb,vu,zj,c0,c1,c2,G,H,F,W,g,X,Y,j,p3,v,e,E,Z,l2,lr,V,M,N,aq,w1,w2,ab,f,k,r,B]
    ·have C:=fun S (a c:T)=>C S a c aj;simp[qb,vu,zj,c0,c1,c2,G,H,F,W,g,X,Y,j,p3,v,e,E,Z,l2,lr,V,M,N,ar,p4,ad,ac,C,f,k,r,B]
    ·have y:=fun S (a b:T)=>y S a b al;simp[qb,vu,zj,c0,c1,c2,G,H,F,W,g,X,Y,j,p3,v,e,E,Z,l2,lr,V,M,N,y,h0,f,k,r,B]
    ·have A:=fun S=>A S Q;have am:((pd.cnt:Int)<=100)=True:=eq_true (by omega);have an:(pd.cnt<=100)=True:=eq_true P;rw[zq]at R;cases R;rw[zq]at A;simp[qb,vu,zj,c0,c1,c2,G,H,F,W,g,X,Y,j,p3,v,e,E,Z,l2,lr,V,M,N,A,am,an,f,k,B];rw[<-zq pd];simp[r,B]
 have az:=bc (zbN who) (by rcases hw with rfl|rfl<;>rfl) hp who (by rcases hw with rfl|rfl<;>simp[zbN]);exact az
end
end Abs
