/- Analyze, at the machine. -/
import Derived.Test.YthcobbfffjfboaaGreatDoorG3
import Derived.Test.YthcobbfffjfboaaGreatDoorG2
set_option linter.unusedVariables false
set_option linter.unusedSimpArgs false
set_option linter.unusedSectionVars false
namespace Abs
open Go
theorem zx1 {S S':AS} {id:Nat} {l:List T} (hid:S.n <=id) (hh:S'.heap id=some (.rows 3 (l.map T.cells))):zW S (some (.arr id 3 0 l.length none,S'))=some (zf l,S):=by
 have e2:S'.frzTo S.n 2 (.arr id 3 0 l.length none)=some (zf l):=by
  show ((S'.slice S.n id 3 0 l.length).bind fun r=>zE (zE (S'.frzTo S.n 1)) r).map (lstN 3)=_;have e3:S'.slice S.n id 3 0 l.length=some (l.map T.cells):=by
   unfold AS.slice;rw [if_pos hid,hh];simp [List.take_of_length_le]
  rw [e3];exact congrArg (Option.map (lstN 3)) zlz
 show (S'.frzTo S.n 2 (.arr id 3 0 l.length none)).bind _=_;rw [e2];simp [zrO]
section
variable {S:AS}
theorem zsr {x0:AV} {frame U:List T} (hts:je S x0 frame) (hU:UOk U) (hf:∀t∈frame,t∈U) (hfl:frame.length <=1000):∃L,jP frame U L /\ L.Nodup /\ call 255 [x0] S=some (zf L,S):=by
 rw [wR zwv (args':=[x0.nrm]) (by simp [hts.reg]) (by simp) rfl];obtain ⟨S',M,v,kid,i,j,L,e230,hK,hp,hcl,hlo⟩:=@zsD ⟨S.heap,S.n,S.n⟩ x0.nrm frame U hts.nrm.ro hts.nn hU hf hfl (Nat.le_refl _);have hr:=hts.nrm.reg;refine ⟨L,⟨hp.has,hp.sub,hp.least,hcl⟩,hp.nodup,?_⟩;have hld:∀d rg,za (.ld none 1 false) d rg S' [.ptr kid 0 0]=some (v,none,S'):=fun d rg=>by
  rw [yg hK.hk];simp [yM]
 have hvr:=hK.reg;simp [-zg,zi9,zq8,e230,hr,hld,hvr];rcases hK.hv with ⟨rfl,rfl⟩|⟨id,rfl,h1,_⟩
 ·simp;rfl
 ·have:S.n <=id:=by
   rcases Nat.lt_or_ge id S.n with h|h
   ·exact absurd (.inr (.inr (.inr ⟨_,_,_,_,rfl⟩))) (hlo id h)
   ·exact h
  exact zx1 this h1
end
structure VC where
 k1:Nat
 i1:Nat
 j1:Nat
 v1:AV
 L1:List T
 k2:Nat
 i2:Nat
 j2:Nat
 v2:AV
 L2:List T
 m:Nat
 TH:List T
structure Vw (c:VC) (S:AS):Prop where
 ex:∃M1 M2,KN S c.k1 c.i1 c.j1 c.L1 M1 c.v1 /\ KN S c.k2 c.i2 c.j2 c.L2 M2 c.v2
 ap:∀x,j5 c.k1 c.i1 c.j1 c.v1 x -> ¬j5 c.k2 c.i2 c.j2 c.v2 x
 hm:S.heap c.m=some (.map (jF c.TH))
 m1:c.m≠c.j1
 m2:c.m≠c.j2
 lm:c.m < S.n
 th:∀u∈c.TH,u.rshp=true
def Rl (c:VC) (S S':AS):Prop:=S'.ro=S.ro /\ S.n <=S'.n /\ ∀x,x < S.n -> x≠c.j1 -> x≠c.j2 -> S'.heap x=S.heap x
def VQ (c:VC) (S S':AS):Prop:=Vw c S' /\ Rl c S S'
theorem KN.own_lt {S:AS} {kid i j:Nat} {L:List T} {v:AV} {M:List (ByteArray×Bool)} (h:KN S kid i j L M v) {x:Nat} (hx:j5 kid i j v x):x < S.n:=by
 rcases hx with rfl|rfl|rfl|⟨a,b,c,d,e⟩
 ·exact h.lk
 ·exact h.li
 ·exact h.lj
 ·rcases h.hv with ⟨_,e'⟩|⟨id,e',_,_,hl,_⟩
  ·rw [e']at e;cases e
  ·rw [e']at e;cases e;exact hl
section
variable {c:VC} {S:AS}
theorem Rl.refl:Rl c S S:=⟨rfl,Nat.le_refl _,fun _ _ _ _=>rfl⟩
theorem Rl.trans {S' S'':AS} (h:Rl c S S') (h':Rl c S' S''):Rl c S S'':=⟨h'.1.trans h.1,Nat.le_trans h.2.1 h'.2.1,fun x hx h1 h2=>(h'.2.2 x (Nat.lt_of_lt_of_le hx h.2.1) h1 h2).trans (h.2.2 x hx h1 h2)⟩
theorem VQ.refl (h:Vw c S):VQ c S S:=⟨h,Rl.refl⟩
theorem VQ.trans {S' S'':AS} (h:VQ c S S') (h':VQ c S' S''):VQ c S S'':=⟨h'.1,h.2.trans h'.2⟩
theorem Vw.alloc (h:Vw c S) {S':AS} (hr:S'.ro=S.ro) (hn:S.n <=S'.n) (hh:∀x,x < S.n -> S'.heap x=S.heap x):VQ c S S':=by
 obtain ⟨M1,M2,K1,K2⟩:=h.ex;exact ⟨⟨⟨M1,M2,K1.keep hr hn fun x hx _=>hh x hx,K2.keep hr hn fun x hx _=>hh x hx⟩,h.ap,(hh _ h.lm).trans h.hm,h.m1,h.m2,Nat.lt_of_lt_of_le h.lm hn,h.th⟩,hr,hn,fun x hx _ _=>hh x hx⟩
theorem Vw.mk1 (h:Vw c S) {t:T} (ht:t.tidy):∃S',VQ c S S' /\ call 231 [.ptr c.k1 0 0,.agg t.cells] S=some (.sc (.bool (mkP c.L1 t)),S'):=by
 obtain ⟨M1,M2,K1,K2⟩:=h.ex;obtain ⟨M',hM',hc⟩:=zlJ K1.ks ht K1.ok;rw [K1.st]at hc;have hne:∀x,j5 c.k2 c.i2 c.j2 c.v2 x -> x≠c.j1:=fun x hx e=>h.ap x (.inr (.inr (.inl e))) hx;refine ⟨_,⟨⟨⟨M',M2,K1.made hM',K2.keep rfl (Nat.le_refl _) fun x _ hx=>vN (hne x hx)⟩,h.ap,(vN h.m1).trans h.hm,h.m1,h.m2,h.lm,h.th⟩,rfl,Nat.le_refl _,fun x _ h1 _=>vN h1⟩,hc⟩
theorem Vw.mk2 (h:Vw c S) {t:T} (ht:t.tidy):∃S',VQ c S S' /\ call 231 [.ptr c.k2 0 0,.agg t.cells] S=some (.sc (.bool (mkP c.L2 t)),S'):=by
 obtain ⟨M1,M2,K1,K2⟩:=h.ex;obtain ⟨M',hM',hc⟩:=zlJ K2.ks ht K2.ok;rw [K2.st]at hc;have hne:∀x,j5 c.k1 c.i1 c.j1 c.v1 x -> x≠c.j2:=fun x hx e=>h.ap x hx (.inr (.inr (.inl e)));refine ⟨St S c.j2 M',⟨⟨⟨M1,M',K1.keep rfl (Nat.le_refl _) fun x _ hx=>vN (hne x hx),K2.made hM'⟩,h.ap,(vN h.m2).trans h.hm,h.m1,h.m2,h.lm,h.th⟩,rfl,Nat.le_refl _,fun x _ _ h2=>vN h2⟩,hc⟩
def MkF (c:VC) (kp:Nat) (L:List T):Prop:=∀S t,Vw c S -> t.tidy -> ∃S',VQ c S S' /\ call 231 [.ptr kp 0 0,.agg t.cells] S=some (.sc (.bool (mkP L t)),S')
theorem zHD:MkF c c.k1 c.L1:=fun _ _ h ht=>h.mk1 ht
theorem zv1:MkF c c.k2 c.L2:=fun _ _ h ht=>h.mk2 ht
theorem zyI {kp:Nat} {L:List T} (hk:MkF c kp L) (h:Vw c S) {t:T} (ht:t.tidy):∃S',VQ c S S' /\ call 424 [.agg t.cells,.iptr [.ptr kp 0 0]] S=some (.sc (.bool (!mkP L t)),S'):=by
 rw [ym zx3 (by simp) rfl];obtain ⟨S',hq,hc⟩:=hk S t h ht;refine ⟨S',hq,?_⟩;simp [zjo,zoX,hc]
theorem zwB {l:List T} {z:Nat} {f:Bool} (hz:l≠[] -> z=3) (hl:l.length <=4611686018427387904) {k:Nat} {cap:List AV} {g:T -> Bool} (hS:Vw c S)
 (hg:∀t∈l,∀S',VQ c S S' -> ∃S'',VQ c S S'' /\ call k (.agg t.cells::cap) S'=some (.sc (.bool (g t)),S'')):
 ∃n S',VQ c S S' /\ decide (0 <=n)=l.any g /\ call 408 [.lst z f (l.map T.cells),.fn k [] cap] S=some (.sc (.int .i64 n),S'):=by
 rw [ym zo9 (by simp) rfl];simp only [zfu];simp [zmv];have h0:l.any g=(l.drop 0).any g:=rfl;rw [h0];refine jY (α:=Nat) (R:=fun q r=>∃n S',VQ c S S' /\ decide (0 <=n)=(l.drop q).any g /\ r=some (.sc (.int .i64 n),S')) (fun q e rg S'=>q <=l.length /\ VQ c S S' /\ e 0=.lst z f (l.map T.cells) /\ e 1=.fn k [] cap /\ e 7=.sc (.int .i64 (l.length:Nat)) /\ e 8=.sc (.int .i64 (q:Nat))) (fun q=>l.length - q) ?_ 0 _ _ _ ?_;rotate_left
 ·exact ⟨by omega,VQ.refl hS,by simp,by simp,by simp,by simp⟩
 intro kk hkk q e rg S' ⟨hq,hQ,g0,g1,g7,g8⟩ ih;by_cases hc:q < l.length
 ·obtain ⟨t,ht⟩:=jK hc;have w2:IntKind.i64.wrap ((q:Int)+1)=((q+1:Nat):Int):=w64 (by omega);have hcq:(q:Int) < (l.length:Int):=by omega
  have hz3:z=3:=hz (by rintro rfl;simp at hc);have hia:pev (.iaddr 3) [.lst z f (l.map T.cells),.sc (.int .i64 (q:Nat))]=some (.iptr t.cells):=by
   subst hz3;rw [zcS (by omega)];simp [ht]
  obtain ⟨hi,he⟩:=List.getElem?_eq_some_iff.1 ht;have hd:(l.drop q).any g=(g t ||(l.drop (q+1)).any g):=by
   rw [List.drop_eq_getElem_cons hi,he,List.any_cons]
  obtain ⟨S2,hQ2,hcall⟩:=hg t (List.mem_of_getElem? ht) S' hQ;cases hb:g t with
  |true=>
   rw [hb]at hcall hd;rw [hd];simp [zcB,g0,g1,g7,g8,hcq,hia,hcall];rw [hkk];simp;exact ⟨_,S2,hQ2,by omega,rfl,rfl⟩
  |false=>
   rw [hb]at hcall hd;simp [zcB,g0,g1,g7,g8,hcq,hia,hcall,w2];refine ih (q+1) _ _ _ (by omega) (fun _ h=>?_) ?_
   ·rw [hd];simpa using h
   ·exact ⟨by omega,hQ2,by simp [g0],by simp [g1],by simp [g7],by simp⟩
 ·have hq':q=l.length:=by omega
  subst hq';simp [zcB,g7,g8];rw [hkk];simp;exact ⟨_,S',hQ,by omega,rfl,rfl⟩
theorem zCZ {l:List T} {z:Nat} {f:Bool} (hz:l≠[] -> z=3) (hl:l.length <=4611686018427387904) {k:Nat} {cap:List AV} {g:T -> Bool} (hS:Vw c S)
 (hg:∀t∈l,∀S',VQ c S S' -> ∃S'',VQ c S S'' /\ call k (.agg t.cells::cap) S'=some (.sc (.bool (g t)),S'')):
 ∃S',VQ c S S' /\ call 320 [.lst z f (l.map T.cells),.fn k [] cap] S=some (.sc (.bool (l.any g)),S'):=by
 rw [ym zqb (by simp) rfl];obtain ⟨n,S',hQ,hn,hc⟩:=zwB (f:=f) hz hl hS hg;refine ⟨S',hQ,?_⟩;simp [f320,zmP,hc,hn]
theorem zqM {kp:Nat} {L:List T} (hk:MkF c kp L) (h:Vw c S) {l:List T} {z:Nat} {f:Bool} (hz:l≠[] -> z=3) (hl:l.length <=4611686018427387904) (ht:∀t∈l,t.tidy):
 ∃S',VQ c S S' /\ call 423 [.ptr kp 0 0,.lst z f (l.map T.cells)] S=some (.sc (.bool (l.all (mkP L))),S'):=by
 rw [ym zzV (by simp) rfl];obtain ⟨S',hQ,hc⟩:=zCZ (f:=f) (k:=424) (cap:=[.iptr [.ptr kp 0 0]]) (g:=fun t=>!mkP L t) hz hl h fun t hm S1 hQ1=>by
  obtain ⟨S2,hQ2,hc⟩:=zyI hk hQ1.1 (ht t hm);exact ⟨S2,hQ1.trans hQ2,hc⟩
 refine ⟨S',hQ,?_⟩;rw [<- zj8];have hib:pev .ibox [.ptr kp 0 0]=some (.iptr [.ptr kp 0 0]):=rfl;simp [zgy,zrG,hib,hc]
structure RW where
 z:Nat
 f:Bool
 l:List T
def RW.v (r:RW):AV:=.lst r.z r.f (r.l.map T.cells)
structure RW.ok (r:RW):Prop where
 z:r.l≠[] -> r.z=3
 len:r.l.length <=4611686018427387904
 tidy:∀t∈r.l,t.tidy
@[simp] theorem RW.reg {r:RW}:r.v.isReg=false:=rfl
@[simp] theorem RW.cell {r:RW}:r.v.isCell=true:=rfl
def vcV (c:VC):AV:=.iptr [.ptr c.k1 0 0,.ptr c.k2 0 0,.mp c.m]
@[simp] theorem zMk:(vcV c).isReg=false:=rfl
def Fq (S:AS) (q:Nat):Prop:=S.heap q=some (.rows 1 [[.fn 423 [] []]])
theorem zu6 {q:Nat} (hq:Fq S q) (h:Vw c S) {r:RW} (hr:r.ok):∃S',VQ c S S' /\ call 426 [r.v,.ptr q 0 0,vcV c] S=some (.sc (.bool (r.l.all (mkP c.L2))),S'):=by
 rw [ym zvR (by simp [vcV]) rfl];obtain ⟨S',hQ,hc⟩:=zqM zv1 h (f:=r.f) hr.z hr.len hr.tidy;have hl:∀d rg,za (.ld none 1 false) d rg S [.ptr q 0 0]=some (.fn 423 [] [],none,S):=fun d rg=>by rw [yg hq];rfl
 refine ⟨S',hQ,?_⟩;have hc:call 423 [.ptr c.k2 0 0,r.v] S=_:=hc;simp [zgL,zrQ,hl,vcV,hc]
theorem zzL {q:Nat} (hq:Fq S q) (h:Vw c S) {r:RW} (hr:r.ok):∃S',VQ c S S' /\ call 427 [r.v,.ptr q 0 0,vcV c] S=some (.sc (.bool (r.l.all (mkP c.L1))),S'):=by
 rw [ym zHX (by simp [vcV]) rfl];obtain ⟨S',hQ,hc⟩:=zqM zHD h (f:=r.f) hr.z hr.len hr.tidy;have hl:∀d rg,za (.ld none 1 false) d rg S [.ptr q 0 0]=some (.fn 423 [] [],none,S):=fun d rg=>by rw [yg hq];rfl
 refine ⟨S',hQ,?_⟩;have hc:call 423 [.ptr c.k1 0 0,r.v] S=_:=hc;simp [zjm,zs3,hl,vcV,hc]
theorem zzB {l:List RW} {z:Nat} {f:Bool} (hz:l≠[] -> z=1) (hl:l.length <=4611686018427387904) {k:Nat} {cap:List AV} {g:RW -> Bool} (hS:Vw c S)
 (hg:∀t∈l,∀S',VQ c S S' -> ∃S'',VQ c S S'' /\ call k (t.v::cap) S'=some (.sc (.bool (g t)),S'')):
 ∃n S',VQ c S S' /\ decide (0 <=n)=l.any g /\ call 465 [.lst z f (l.map fun r=>[r.v]),.fn k [] cap] S=some (.sc (.int .i64 n),S'):=by
 rw [ym zDU (by simp) rfl];simp only [zjf];simp [zoO];have h0:l.any g=(l.drop 0).any g:=rfl;rw [h0];refine jY (α:=Nat) (R:=fun q r=>∃n S',VQ c S S' /\ decide (0 <=n)=(l.drop q).any g /\ r=some (.sc (.int .i64 n),S')) (fun q e rg S'=>q <=l.length /\ VQ c S S' /\ e 0=.lst z f (l.map fun r=>[r.v]) /\ e 1=.fn k [] cap /\ e 7=.sc (.int .i64 (l.length:Nat)) /\ e 8=.sc (.int .i64 (q:Nat))) (fun q=>l.length - q) ?_ 0 _ _ _ ?_;rotate_left
 ·exact ⟨by omega,VQ.refl hS,by simp,by simp,by simp,by simp⟩
 intro kk hkk q e rg S' ⟨hq,hQ,g0,g1,g7,g8⟩ ih;by_cases hc:q < l.length
 ·obtain ⟨t,ht⟩:=jK hc;have w2:IntKind.i64.wrap ((q:Int)+1)=((q+1:Nat):Int):=w64 (by omega);have hcq:(q:Int) < (l.length:Int):=by omega
  have hz3:z=1:=hz (by rintro rfl;simp at hc);have hia:pev (.iaddr 1) [.lst z f (l.map fun r=>[r.v]),.sc (.int .i64 (q:Nat))]=some (.iptr [t.v]):=by
   subst hz3;rw [zcS (by omega)];simp [ht]
  obtain ⟨hi,he⟩:=List.getElem?_eq_some_iff.1 ht;have hd:(l.drop q).any g=(g t ||(l.drop (q+1)).any g):=by
   rw [List.drop_eq_getElem_cons hi,he,List.any_cons]
  obtain ⟨S2,hQ2,hcall⟩:=hg t (List.mem_of_getElem? ht) S' hQ;cases hb:g t with
  |true=>
   rw [hb]at hcall hd;rw [hd];simp [zh0,g0,g1,g7,g8,hcq,hia,hcall];rw [hkk];simp;exact ⟨_,S2,hQ2,by omega,rfl,rfl⟩
  |false=>
   rw [hb]at hcall hd;simp [zh0,g0,g1,g7,g8,hcq,hia,hcall,w2];refine ih (q+1) _ _ _ (by omega) (fun _ h=>?_) ?_
   ·rw [hd];simpa using h
   ·exact ⟨by omega,hQ2,by simp [g0],by simp [g1],by simp [g7],by simp⟩
 ·have hq':q=l.length:=by omega
  subst hq';simp [zh0,g7,g8];rw [hkk];simp;exact ⟨_,S',hQ,by omega,rfl,rfl⟩
theorem zpy {l:List RW} {z:Nat} {f:Bool} (hz:l≠[] -> z=1) (hl:l.length <=4611686018427387904) {k:Nat} {cap:List AV} {g:RW -> Bool} (hS:Vw c S)
 (hg:∀t∈l,∀S',VQ c S S' -> ∃S'',VQ c S S'' /\ call k (t.v::cap) S'=some (.sc (.bool (g t)),S'')):
 ∃S',VQ c S S' /\ call 425 [.lst z f (l.map fun r=>[r.v]),.fn k [] cap] S=some (.sc (.bool (l.any g)),S'):=by
 rw [ym zGS (by simp) rfl];obtain ⟨n,S',hQ,hn,hc⟩:=zzB (f:=f) hz hl hS hg;refine ⟨S',hQ,?_⟩;simp [zgl,znP,hc,hn]
def gnL (L1 L2:List T) (rows:List (List T)):Bool:=rows.any (fun r=>r.all (mkP L2)) && !rows.any (fun r=>r.all (mkP L1))
def gn (c:VC) (rows:List RW):Bool:=rows.any (fun r=>r.l.all (mkP c.L2)) && !rows.any (fun r=>r.l.all (mkP c.L1))
theorem zge {rows:List RW}:gn c rows=gnL c.L1 c.L2 (rows.map RW.l):=by
 unfold gn gnL;rw [List.any_map,List.any_map];rfl
theorem zgo (h:Vw c S) {l:List RW} {z:Nat} {f:Bool} (hz:l≠[] -> z=1) (hl:l.length <=1000) (hr:∀r∈l,r.ok) (hS:S.ro <=S.n):
 ∃S',VQ c S S' /\ call 357 [.agg [.ptr c.k1 0 0,.ptr c.k2 0 0,.mp c.m],.lst z f (l.map fun r=>[r.v])] S=some (.sc (.bool (gn c l)),S'):=by
 rw [ym zDm (by simp) rfl];obtain ⟨S1,hS1⟩:∃S1,S1=(S.new (.rows 1 [[.sc .nilFunc]])).set S.n (some (.rows 1 [[.fn 423 [] []]])):=⟨_,rfl⟩;have hal:∀d rg,za (.alloc .heap [.sc .nilFunc]) d rg S []=some (.ptr S.n 0 0,none,S.new (.rows 1 [[.sc .nilFunc]])):=fun d rg=>rfl;have hst:∀d rg,za (.st none 1) d rg (S.new (.rows 1 [[.sc .nilFunc]])) [.ptr S.n 0 0,.fn 423 [] []]=some (.junk,none,S1):=fun d rg=>by
  simp [za,jw,hS1];exact hS
 have hQ1:VQ c S S1:=h.alloc (by rw [hS1];rfl) (by rw [hS1];exact Nat.le_succ _) fun x hx=>by
  rw [hS1];show (if x=S.n then _ else if x=S.n then _ else S.heap x)=_;rw [if_neg (by omega),if_neg (by omega)]
 have hn1:S1.n=S.n+1:=by rw [hS1];rfl
 have hq1:Fq S1 S.n:=by rw [hS1];exact if_pos rfl
 obtain ⟨M1,M2,K1,K2⟩:=h.ex;have hFq:∀S',VQ c S1 S' -> Fq S' S.n:=fun S' hq=>(hq.2.2.2 S.n (by omega) (by have:=K1.lj;omega) (by have:=K2.lj;omega)).trans hq1;obtain ⟨S2,hQ2,e2⟩:=zpy (f:=f) (k:=426) (cap:=[.ptr S.n 0 0,vcV c]) (g:=fun r=>r.l.all (mkP c.L2)) hz (by omega) hQ1.1 fun r hm S' hq=>by
  obtain ⟨S'',hq',hc⟩:=zu6 (hFq S' hq) hq.1 (hr r hm);exact ⟨S'',hq.trans hq',hc⟩
 obtain ⟨S3,hQ3,e3⟩:=zpy (S:=S2) (f:=f) (k:=427) (cap:=[.ptr S.n 0 0,vcV c]) (g:=fun r=>r.l.all (mkP c.L1)) hz (by omega) hQ2.1 fun r hm S' hq=>by
  obtain ⟨S'',hq',hc⟩:=zzL (hFq S' (hQ2.trans hq)) hq.1 (hr r hm);exact ⟨S'',hq.trans hq',hc⟩
 refine ⟨S3,(hQ1.trans hQ2).trans hQ3,?_⟩;have hib:pev .ibox [.agg [.ptr c.k1 0 0,.ptr c.k2 0 0,.mp c.m]]=some (vcV c):=rfl;unfold gn;generalize hA:l.any (fun r=>r.l.all (mkP c.L2))=A at *;generalize hB:l.any (fun r=>r.l.all (mkP c.L1))=B at *;cases A<;>simp [zib,zs2,hib,hal,hst,e2,e3]
end
def jN (L1 L2 TH:List T) (t:T):Bool:=
 if t.kind=4 then gnL L1 L2 [t.kids.take 1]
 else if t.kind=5 \/ t.kind=6 \/ t.kind=7 \/ t.kind=8 then inL TH t && gnL L1 L2 [t.kids]
 else if t.kind=9 then (match t.kids with|[x,y]=>inL TH t && gnL L1 L2 [[x,zZ y],[y,zZ x]]|_=>false)
 else if t.kind=10 then (match t.kids with|[x,y]=>inL TH t && mkP L1 x && gnL L1 L2 [[y]]|_=>false)
 else false
section
variable {c:VC} {S:AS}
def rwT (l:List T):RW:=⟨if (l.map T.cells).isEmpty then 0 else 3,false,l⟩
theorem zIr {l:List T}:(rwT l).v=zf l:=rfl
theorem zH4 {l:List T} (hl:l.length <=4611686018427387904) (ht:∀t∈l,t.tidy):(rwT l).ok:=by
 refine ⟨fun h=>?_,hl,ht⟩;have h:l≠[]:=h;show (if (l.map T.cells).isEmpty then 0 else 3)=3;cases l with
 |nil=>exact absurd rfl h
 |cons _ _=>rfl
theorem T.tidy.klen {t:T} (h:t.tidy):t.kids.length <=4611686018427387904:=by have h1:=t.bulk_len;have h2:=h.bulk;omega
theorem Vw.look (h:Vw c S) {t:T} (ht:t.rshp=true) (d:Option Nat) (rg:Nat -> Option (List AV)):za (.lookup true (.sc (.bool false)) false) d rg S [.mp c.m,.sc (.string t.text)]=some (.sc (.bool (inL c.TH t)),none,S):=by
 obtain ⟨f,hf,h1,_⟩:=@zhi c.TH t ht h.th;simp only [za,h.hm,qm,ne_eq,not_true,if_false,Option.bind_some,hf,Option.map_some,h1,Bool.false_eq_true]
theorem zhl {t:T} (ht:t.tidy):call 121 [.agg t.cells] S=some (.sc (.string t.text),S):=by rw [zeX ht.bulk,ht.txt]
theorem zbc (d:Option Nat) (rg:Nat -> Option (List AV)):za (.ld none 3 true) d rg S [vcV c]=some (.agg [.ptr c.k1 0 0,.ptr c.k2 0 0,.mp c.m],none,S):=rfl
theorem zcd:pev (.faddr 2) [vcV c]=some (.iptr [.mp c.m]):=rfl
def zfX (c:VC) (k:Nat) (t:T) (b:Bool):Prop:=∀S,Vw c S -> S.ro <=S.n -> ∃S',VQ c S S' /\ call k [.agg t.cells,vcV c] S=some (.sc (.bool b),S')
theorem zwf {t a b:T} (ht:t.tidy) (hk:t.kids=[a,b]):zfX c 358 t (gnL c.L1 c.L2 [[a]]):=by
 intro S h hS;rw [ym zGa (by simp) rfl];have hta:a.tidy:=ht.kid (by rw [hk];simp);obtain ⟨S',hQ,hc⟩:=zgo h (l:=[⟨3,false,[a]⟩]) (z:=1) (f:=true) (fun _=>rfl) (by simp) (by simp only [List.mem_singleton];rintro r rfl;exact ⟨fun _=>rfl,by simp,by simpa using hta⟩) hS;rw [zge]at hc;refine ⟨S',hQ,?_⟩;have hsl:pev (.sliceL 3 false true false) [zf [a,b],.i 1]=some (.lst 3 false [a.cells]):=by simp [pev,zf,lstN,zK]
 simp only [List.map_cons,List.map_nil,RW.v]at hc;simp [zhb,zpZ,zbc,hk,hsl,hc]
theorem zFq {t:T} (ht:t.tidy):zfX c 356 t (inL c.TH t && gnL c.L1 c.L2 [t.kids]):=by
 intro S h hS;rw [ym zw0 (by simp) rfl];have e121:=fun S=>@zhl S t ht;have lk:=h.look ht.rshp;obtain ⟨S',hQ,hc⟩:=zgo h (l:=[rwT t.kids]) (z:=1) (f:=true) (fun _=>rfl) (by simp) (by simp only [List.mem_singleton];rintro r rfl;exact zH4 ht.klen fun u hu=>ht.kid hu) hS;rw [zge]at hc;simp only [List.map_cons,List.map_nil,zIr]at hc;have hl:(rwT t.kids).l=t.kids:=rfl;rw [hl]at hc;generalize gnL c.L1 c.L2 [t.kids]=g at *;cases hi:inL c.TH t with
 |false=>
  rw [hi]at lk;exact ⟨S,VQ.refl h,by simp [ze2,zlV,zbc,zcd,e121,lk]⟩
 |true=>
  rw [hi]at lk;exact ⟨S',hQ,by simp [ze2,zlV,zbc,zcd,e121,lk,hc]⟩
theorem zzw {t x y:T} (ht:t.tidy) (hk:t.kids=[x,y]) (hx:(zZ x).tidy) (hy:(zZ y).tidy):zfX c 359 t (inL c.TH t && gnL c.L1 c.L2 [[x,zZ y],[y,zZ x]]):=by
 intro S h hS;rw [ym zCn (by simp) rfl];have e121:=fun S=>@zhl S t ht;have lk:=h.look ht.rshp;have htx:x.tidy:=ht.kid (by rw [hk];simp);have hty:y.tidy:=ht.kid (by rw [hk];simp);have two:∀a b:T,a.tidy -> b.tidy -> RW.ok ⟨3,true,[a,b]⟩:=fun a b ha hb=>⟨fun _=>rfl,by simp,by simp only [List.mem_cons,List.not_mem_nil,or_false];rintro u (rfl|rfl)<;>assumption⟩;obtain ⟨S',hQ,hc⟩:=zgo h (l:=[⟨3,true,[x,zZ y]⟩,⟨3,true,[y,zZ x]⟩]) (z:=1) (f:=true) (fun _=>rfl) (by simp) (by
  simp only [List.mem_cons,List.not_mem_nil,or_false];rintro r (rfl|rfl)
  ·exact two _ _ htx hy
  ·exact two _ _ hty hx) hS
 rw [zge]at hc;simp only [List.map_cons,List.map_nil,RW.v]at hc;generalize gnL c.L1 c.L2 [[x,zZ y],[y,zZ x]]=g at *;have l0:pev (.iaddr 3) [zf [x,y],.i 0]=some (.iptr x.cells):=zI (i:=0) rfl;have l1:pev (.iaddr 3) [zf [x,y],.i 1]=some (.iptr y.cells):=zI (i:=1) rfl;cases hi:inL c.TH t with
 |false=>
  rw [hi]at lk;exact ⟨S,VQ.refl h,by simp [zfe,zj5,zbc,zcd,e121,lk,hk,l0,l1]⟩
 |true=>
  rw [hi]at lk;exact ⟨S',hQ,by simp [zfe,zj5,zbc,zcd,e121,lk,hk,l0,l1,hc]⟩
theorem zI0 {t x y:T} (ht:t.tidy) (hk:t.kids=[x,y]):zfX c 361 t (inL c.TH t && mkP c.L1 x && gnL c.L1 c.L2 [[y]]):=by
 intro S h hS;rw [ym zCA (by simp) rfl];have e121:=fun S=>@zhl S t ht;have lk:=h.look ht.rshp;have htx:x.tidy:=ht.kid (by rw [hk];simp);have hty:y.tidy:=ht.kid (by rw [hk];simp);obtain ⟨S1,hQ1,e231⟩:=h.mk1 htx;obtain ⟨S',hQ,hc⟩:=zgo hQ1.1 (l:=[⟨3,false,[y]⟩]) (z:=1) (f:=true) (fun _=>rfl) (by simp) (by simp only [List.mem_singleton];rintro r rfl;exact ⟨fun _=>rfl,by simp,by simpa using hty⟩) (by have:=hQ1.2.1;have:=hQ1.2.2.1;omega);rw [zge]at hc;simp only [List.map_cons,List.map_nil,RW.v]at hc;generalize gnL c.L1 c.L2 [[y]]=g at *;have l0:pev (.iaddr 3) [zf [x,y],.i 0]=some (.iptr x.cells):=zI (i:=0) rfl;have hsl:pev (.sliceL 3 true false false) [zf [x,y],.i 1]=some (.lst 3 false [y.cells]):=by simp [pev,zf,lstN,zK]
 have fa2:pev (.faddr 0) [vcV c]=some (vcV c):=rfl;have ld1:∀(d:Option Nat) (rg:Nat -> Option (List AV)) (S:AS),za (.ld none 1 false) d rg S [vcV c]=some (.ptr c.k1 0 0,none,S):=fun _ _ _=>rfl;cases hi:inL c.TH t with
 |false=>
  rw [hi]at lk;exact ⟨S,VQ.refl h,by simp [zd8,zgc,zbc,zcd,e121,lk,hk,l0,hsl,fa2,ld1]⟩
 |true=>
  rw [hi]at lk;cases hm:mkP c.L1 x with
  |false=>
   rw [hm]at e231;exact ⟨S1,hQ1,by simp [zd8,zgc,zbc,zcd,e121,lk,hk,l0,hsl,fa2,ld1,e231]⟩
  |true=>
   rw [hm]at e231;exact ⟨S',hQ1.trans hQ,by simp [zd8,zgc,zbc,zcd,e121,lk,hk,l0,hsl,fa2,ld1,e231,hc]⟩
end
theorem zC0 {S:AS} {o o':jb}:(S.new o).set S.n (some o')=S.new o':=by
 unfold AS.set AS.new;simp only [AS.mk.injEq,and_true];funext x;split<;>rfl
def fw (c:VC) (k:Nat):AV:=.fn k [] [vcV c]
def TW (c:VC):List (Value×AV):=[(.int .i64 4,fw c 358),(.int .i64 5,fw c 356),(.int .i64 6,fw c 356),(.int .i64 7,fw c 356),(.int .i64 8,fw c 356),(.int .i64 9,fw c 359),(.int .i64 10,fw c 361)]
section
variable {S:AS} {c:VC}
theorem zcl {es:List (Value×AV)} {k:Int} {v:AV} (hv:v.isReg=false) (hf:jq (.int .i64 k) es 0=some none) (hS:S.ro <=S.n) (d:Option Nat) (rg:Nat -> Option (List AV)):
 za (.mapset false) d rg (S.new (.map es)) [.mp S.n,.sc (.int .i64 k),v]=some (.junk,none,S.new (.map (es++[(.int .i64 k,v)]))):=by
 have h1:(S.new (.map es)).ro <=S.n:=hS;have h2:(S.new (.map es)).heap S.n=some (.map es):=jw;simp only [za,h1,hv,qm,h2,hf,Option.map_some,and_self,if_true,zC0]
theorem zCI (hS:S.ro <=S.n):call 258 [.agg [.ptr c.k1 0 0,.ptr c.k2 0 0,.mp c.m]] S=some (.mp S.n,S.new (.map (TW c))):=by
 rw [ym zyb (by simp) rfl];have m1:∀d rg (S:AS),za .mkmap d rg S []=some (.mp S.n,none,S.new (.map [])):=fun _ _ _=>rfl;have hib:pev .ibox [.agg [.ptr c.k1 0 0,.ptr c.k2 0 0,.mp c.m]]=some (vcV c):=rfl;have mf:∀k,pev (.mkfn k 0) [vcV c]=some (fw c k):=fun k=>rfl;have fr:∀k,(fw c k).isReg=false:=fun k=>rfl;have s1:=fun d rg=>zcl (S:=S) (es:=[]) (k:=4) (v:=fw c 358) rfl rfl hS d rg;have s2:=fun d rg=>zcl (S:=S) (es:=[(.int .i64 4,fw c 358)]) (k:=5) (v:=fw c 356) rfl rfl hS d rg;have s3:=fun d rg=>zcl (S:=S) (es:=[(.int .i64 4,fw c 358),(.int .i64 5,fw c 356)]) (k:=6) (v:=fw c 356) rfl rfl hS d rg;have s4:=fun d rg=>zcl (S:=S) (es:=[(.int .i64 4,fw c 358),(.int .i64 5,fw c 356),(.int .i64 6,fw c 356)]) (k:=7) (v:=fw c 356) rfl rfl hS d rg;have s5:=fun d rg=>zcl (S:=S) (es:=[(.int .i64 4,fw c 358),(.int .i64 5,fw c 356),(.int .i64 6,fw c 356),(.int .i64 7,fw c 356)]) (k:=8) (v:=fw c 356) rfl rfl hS d rg;have s6:=fun d rg=>zcl (S:=S) (es:=[(.int .i64 4,fw c 358),(.int .i64 5,fw c 356),(.int .i64 6,fw c 356),(.int .i64 7,fw c 356),(.int .i64 8,fw c 356)]) (k:=9) (v:=fw c 359) rfl rfl hS d rg;have s7:=fun d rg=>zcl (S:=S) (es:=[(.int .i64 4,fw c 358),(.int .i64 5,fw c 356),(.int .i64 6,fw c 356),(.int .i64 7,fw c 356),(.int .i64 8,fw c 356),(.int .i64 9,fw c 359)]) (k:=10) (v:=fw c 361) rfl rfl hS d rg;simp only [List.nil_append,List.cons_append]at s1 s2 s3 s4 s5 s6 s7;unfold TW;simp [zjd,zrd,m1,hib,mf,fr,s1,s2,s3,s4,s5,s6,s7]
inductive zBa (c:VC) (t:T) (b:Bool):Prop
 |no (h:b=false) (lk:∀(S:AS) (w:Nat),S.heap w=some (.map (TW c)) -> ∀d rg,za (.lookup false (.sc .nilFunc) false) d rg S [.mp w,.sc (.int .i64 t.kind)]=some (.sc .nilFunc,none,S))
 |yes (k:Nat) (lk:∀(S:AS) (w:Nat),S.heap w=some (.map (TW c)) -> ∀d rg,za (.lookup false (.sc .nilFunc) false) d rg S [.mp w,.sc (.int .i64 t.kind)]=some (fw c k,none,S)) (h:zfX c k t b)
theorem zbE {k:Int} {f:Option (Nat×AV)} (hf:jq (.int .i64 k) (TW c) 0=some f) (S:AS) (w:Nat) (hw:S.heap w=some (.map (TW c))) (d:Option Nat) (rg:Nat -> Option (List AV)):
 za (.lookup false (.sc .nilFunc) false) d rg S [.mp w,.sc (.int .i64 k)]=some (wb (.sc .nilFunc) f,none,S):=by
 simp only [za,hw,qm,ne_eq,not_true,if_false,Option.bind_some,hf,Option.map_some,Bool.false_eq_true]
theorem zxZ {t:T} (h:t.tidy) (h9:t.kind=9 -> ∀u∈t.kids,(zZ u).tidy):zBa c t (jN c.L1 c.L2 c.TH t):=by
 by_cases e4:t.kind=4
 ·obtain ⟨a,b,hab⟩:=zfS h (by rw [e4];rfl);have e:jN c.L1 c.L2 c.TH t=gnL c.L1 c.L2 [[a]]:=by unfold jN;rw [if_pos e4,hab];rfl
  rw [e];exact .yes 358 (fun S w hw d rg=>by rw [e4];exact zbE (f:=some (0,fw c 358)) rfl S w hw d rg) (zwf h hab)
 ·by_cases e5:t.kind=5 \/ t.kind=6 \/ t.kind=7 \/ t.kind=8
  ·have e:jN c.L1 c.L2 c.TH t=(inL c.TH t && gnL c.L1 c.L2 [t.kids]):=by unfold jN;rw [if_neg e4,if_pos e5]
   rw [e];refine .yes 356 (fun S w hw d rg=>?_) (zFq h);rcases e5 with e5|e5|e5|e5<;>rw [e5]
   ·exact zbE (f:=some (1,fw c 356)) rfl S w hw d rg
   ·exact zbE (f:=some (2,fw c 356)) rfl S w hw d rg
   ·exact zbE (f:=some (3,fw c 356)) rfl S w hw d rg
   ·exact zbE (f:=some (4,fw c 356)) rfl S w hw d rg
  ·by_cases e9:t.kind=9
   ·obtain ⟨x,y,hab⟩:=zfS h (by rw [e9];rfl);have e:jN c.L1 c.L2 c.TH t=(inL c.TH t && gnL c.L1 c.L2 [[x,zZ y],[y,zZ x]]):=by unfold jN;rw [if_neg e4,if_neg e5,if_pos e9,hab]
    rw [e];exact .yes 359 (fun S w hw d rg=>by rw [e9];exact zbE (f:=some (5,fw c 359)) rfl S w hw d rg) (zzw h hab (h9 e9 x (by rw [hab];simp)) (h9 e9 y (by rw [hab];simp)))
   ·by_cases e10:t.kind=10
    ·obtain ⟨x,y,hab⟩:=zfS h (by rw [e10];rfl);have e:jN c.L1 c.L2 c.TH t=(inL c.TH t && mkP c.L1 x && gnL c.L1 c.L2 [[y]]):=by unfold jN;rw [if_neg e4,if_neg e5,if_neg e9,if_pos e10,hab]
     rw [e];exact .yes 361 (fun S w hw d rg=>by rw [e10];exact zbE (f:=some (6,fw c 361)) rfl S w hw d rg) (zI0 h hab)
    ·have e:jN c.L1 c.L2 c.TH t=false:=by unfold jN;rw [if_neg e4,if_neg e5,if_neg e9,if_neg e10]
     rw [e];refine .no rfl fun S w hw d rg=>?_;have hf:jq (.int .i64 t.kind) (TW c) 0=some none:=by
      unfold TW;simp only [jq,vh,if_true];have q4:(t.kind==4)=false:=by simp [e4]
      have q5:(t.kind==5)=false:=by simp;omega
      have q6:(t.kind==6)=false:=by simp;omega
      have q7:(t.kind==7)=false:=by simp;omega
      have q8:(t.kind==8)=false:=by simp;omega
      have q9:(t.kind==9)=false:=by simp [e9]
      have q10:(t.kind==10)=false:=by simp [e10]
      rw [q4,q5,q6,q7,q8,q9,q10]
     exact zbE hf S w hw d rg
end
theorem zuj:∀{m L:List T},(L++m).Nodup -> js L m=L++m
 |[],L,_=>by simp [js]
 |t::m,L,h=>by
  have ht:inL L t=false:=by
   rw [Bool.eq_false_iff];intro hi;have:=wr.1 hi;rw [List.nodup_append]at h;exact h.2.2 t this t (by simp) rfl
  have e:j6 L t=L++[t]:=by unfold j6;rw [ht];rfl
  show (t::m).foldl j6 L=_;rw [List.foldl_cons,e];have:=@zuj m (L++[t]) (by rw [List.append_assoc];exact h);unfold js at this;rw [this,List.append_assoc];rfl
theorem zrZ {L:List T} (h:L.Nodup):js [] L=L:=by
 have:=@zuj L [] (by simpa using h);simpa using this
def ze1 (L1 L2:List T) (s:T):Bool:=mkP L1 s ||L2.any (jN L1 L2 L1)
def RT (S:AS) (b:Bool) (r:Option (AV×AS)):Prop:=∃t:T,zW S r=some (.tup [.agg t.cells,.sc (.bool b)],S)
section
variable {S:AS}
theorem zE9 {S':AS} {t:T} {b:Bool}:zW S (some (.tup [.agg t.cells,.sc (.bool b)],S'))=some (.tup [.agg t.cells,.sc (.bool b)],S):=by
 have h:∀t:T,S'.frzTo S.n 2 (.agg t.cells)=some (.agg t.cells):=fun t=>zn4 S' S.n 2 t;have h2:S'.frzTo S.n 2 (.tup [.agg t.cells,.sc (.bool b)])=some (.tup [.agg t.cells,.sc (.bool b)]):=by
  have:=h t;simp only [AS.frzTo,AV.frz,Option.map_eq_some_iff]at this;obtain ⟨x,hx,e⟩:=this;cases e;simp only [AS.frzTo,AV.frz,jZ,hx,Option.map_some,Option.bind_some]
 show (S'.frzTo S.n 2 _).bind _=_;rw [h2];have hp:(AV.tup [.agg t.cells,.sc (.bool b)]).pure=true:=by
  have:=ziF t;simp only [AV.pure,jR,Bool.and_true]at this ⊢;exact this
 show (if (AV.tup [.agg t.cells,.sc (.bool b)]).pure then _ else none)=_;rw [if_pos hp]
theorem RT.mk {S':AS} {t:T} {b:Bool}:RT S b (some (.tup [.agg t.cells,.sc (.bool b)],S')):=⟨t,zE9⟩
theorem RT.zero {S':AS} {b:Bool}:RT S b (some (.tup [.agg [.i 0,.s ⟨#[]⟩,.lst 0 true []],.sc (.bool b)],S')):=by
 refine ⟨tZ,?_⟩;have e:tZ.cells=[.i 0,.s ⟨#[]⟩,.lst 0 false []]:=rfl;rw [e];simp [zW,AS.frzTo,AV.frz,jZ,qe,lstN,qS]
set_option maxHeartbeats 16000000 in
set_option maxRecDepth 100000 in
theorem zD8 {x0:AV} {frame U:List T} {s:T} {b:Bool} (hts:je S x0 frame) (hU:UOk U) (hf:∀t∈frame,t∈U) (hs:s∈U) (hfl:frame.length <=900) (h9:∀t∈U,t.kind=9 -> ∀u∈t.kids,(zZ u).tidy)
 (hb:∀L1 L2,jP frame U L1 -> jP (frame++[s]) U L2 -> ze1 L1 L2 s=b):∃t:T,call 144 [x0,.agg s.cells] S=some (.tup [.agg t.cells,.sc (.bool b)],S):=by
 rw [wR zGH (args':=[x0.nrm,.agg s.cells]) (by simp [hts.reg]) (by simp) rfl];have hxr:=hts.nrm.reg;have hxn:=hts.nn;obtain ⟨S0,hS0⟩:∃S0:AS,S0=⟨S.heap,S.n,S.n⟩:=⟨_,rfl⟩;have ht0:je S0 x0.nrm frame:=by rw [hS0];exact hts.nrm.ro
 have r0:S0.ro <=S0.n:=by rw [hS0];exact Nat.le_refl _
 generalize x0.nrm=x at *;have hst:=hU.tidy s hs;have e254:=fun S=>@zkM s S hst;have e116:∀S,call 116 [.agg s.cells] S=some (.sc (.bool true),S):=fun S=>by rw [zyE hst.fits (T.ofit_bulk hst.bulk),hst.right]
 obtain ⟨L1,hK1,hN1,e255⟩:=zsr ht0 hU hf (by omega);have hrw:zv 3 S0 x=some (frame.map T.cells):=by have:=ht0.r0;rw [hxn]at this;exact this
 obtain ⟨S1,hS1⟩:∃S1,S1=S0.new (.rows 3 (frame.map T.cells)):=⟨_,rfl⟩;have e256:call 256 [x] S0=some (.arr S0.n 3 0 frame.length none,S1):=by
  rw [zkK hxr];simp [qG,hrw,hS1];omega
 have hO1:Own S0 S1 3 (.arr S0.n 3 0 frame.length none) (frame.map T.cells):=by
  rw [hS1];exact ⟨zf4,r0,.inr ⟨S0.n,by simp,jw,Nat.le_refl _,Nat.lt_succ_self _⟩⟩
 obtain ⟨v2,S2,hap,hO2,v2r,_,_⟩:=hO1.push (n:=frame.length) (bytes:=48) (r:=s.cells) (f:=true) (d:=none) (rg:=fun _=>none) (by simp) (by omega);have hap':∀d rg,za (.append 3 48) d rg S1 [.arr S0.n 3 0 frame.length none,.lst 3 true [s.cells]]=some (v2,none,S2):=fun d rg=>hap;have hl2:frame.map T.cells++[s.cells]=(frame++[s]).map T.cells:=by simp
 rw [hl2]at hO2;have hf2:∀t∈frame++[s],t∈U:=fun t ht=>by
  rcases List.mem_append.1 ht with h|h
  ·exact hf t h
  ·simp at h;rw [h];exact hs
 obtain ⟨L2,hK2,hN2,e255'⟩:=zsr hO2.isTs hU hf2 (by simp;omega);have hLU1:=zfJ hN1 hK1.sub;have hLU2:=zfJ hN2 hK2.sub;have hUl:=hU.len;have r2:S2.ro <=S2.n:=by have:=hO2.ro;have:=hO2.old.n;omega
 obtain ⟨S3,M1,v3,e257,k1,r3,n3,x3⟩:=zoH (S:=S2) (frame:=L1) (fun t ht=>hU.tidy t (hK1.sub t ht)) (by omega) r2;obtain ⟨S4,M2,v4,e257',k2,r4,n4,x4⟩:=zoH (S:=S3) (frame:=L2) (fun t ht=>hU.tidy t (hK2.sub t ht)) (by omega) (by omega);rw [zrZ hN1]at k1;rw [zrZ hN2]at k2;obtain ⟨S5,hS5⟩:∃S5,S5=S4.new (.map []):=⟨_,rfl⟩;have m1:∀d rg,za .mkmap d rg S4 []=some (.mp S4.n,none,S5):=fun _ _=>by rw [hS5];rfl
 have n5:S5.n=S4.n+1:=by rw [hS5];rfl
 have r5:S5.ro=S4.ro:=by rw [hS5];rfl
 have h5:∀x,x < S4.n -> S5.heap x=S4.heap x:=fun x hx=>by rw [hS5];exact if_neg (by omega)
 have hm5:S5.heap S4.n=some (.map []):=by rw [hS5];exact jw
 have own1:∀x,j5 (S2.n+2) S2.n (S2.n+1) v3 x -> x < S3.n:=fun x hx=>k1.own_lt hx;have k1':KN S5 (S2.n+2) S2.n (S2.n+1) L1 M1 v3:=k1.keep (by omega) (by omega) fun x hx _=>(h5 x (by omega)).trans (x4 x hx).1;have k2':KN S5 (S3.n+2) S3.n (S3.n+1) L2 M2 v4:=k2.keep (by omega) (by omega) fun x hx _=>h5 x hx;have own2:∀x,j5 (S3.n+2) S3.n (S3.n+1) v4 x -> S3.n <=x /\ x < S4.n:=fun x hx=>⟨by
  rcases Nat.lt_or_ge x S3.n with h|h
  ·exact absurd hx (x4 x h).2
  ·exact h,k2.own_lt hx⟩
 generalize hk1:S2.n+2=kid1 at *;generalize hi1:S2.n=i1 at *;generalize hj1:i1+1=j1 at *;generalize hk2:S3.n+2=kid2 at *;generalize hi2:S3.n=i2 at *;generalize hj2:i2+1=j2 at *;generalize hm:S4.n=m at *
 let c0:VC:=⟨kid1,i1,j1,v3,L1,kid2,i2,j2,v4,L2,m,[]⟩
 let c1:VC:=⟨kid1,i1,j1,v3,L1,kid2,i2,j2,v4,L2,m,L1⟩
 have V5:Vw c0 S5:=⟨⟨M1,M2,k1',k2'⟩,fun x hx hy=>by have:=own1 x hx;have:=(own2 x hy).1;omega,hm5,by show m≠j1;omega,by show m≠j2;omega,by show m < S5.n;omega,fun u hu=>absurd hu List.not_mem_nil⟩;obtain ⟨S6,hQ6,e231⟩:=V5.mk1 hst;have e231:call 231 [.ptr kid1 0 0,.agg s.cells] S5=some (.sc (.bool (mkP L1 s)),S6):=e231;have hbb:=hb L1 L2 hK1 hK2;unfold ze1 at hbb;show ∃t:T,zW S _=_;show RT S b _;rw [<- hS0];cases hmk:mkP L1 s with
 |true=>
  rw [hmk]at e231 hbb;have hbb:true=b:=hbb;subst hbb;simp [-zg,zfQ,zmh,e254,e116,e255,e256,hap',e255',e257,e257',m1,e231,hxr,v2r];exact RT.mk
 |false=>
  rw [hmk]at e231 hbb;rw [Bool.false_or]at hbb;simp only [zfQ];simp [-zg,zmh,e254,e116,e255,e256,hap',e255',e257,e257',m1,e231,hxr,v2r];have V6:=hQ6.1;obtain ⟨M1',M2',q1,q2⟩:=V6.ex;have r6:S6.ro <=m:=by have:=hQ6.2.1;omega
  have n6:S5.n <=S6.n:=hQ6.2.2.1;have n1m:∀x,j5 kid1 i1 j1 v3 x -> x≠m:=fun x hx=>by have:=own1 x hx;omega
  have n2m:∀x,j5 kid2 i2 j2 v4 x -> x≠m:=fun x hx=>by have:=(own2 x hx).2;omega
  have start:S6=S6.set m (some (.map (jF (L1.take 0)))):=(zkO (o:=some (.map (jF []))) V6.hm).symm;have hms:∀q t,L1[q]?=some t -> ∀d rg,za (.mapset true) d rg (S6.set m (some (.map (jF (L1.take q))))) [.mp m,.sc (.string t.text),.sc (.bool true)]=some (.junk,none,S6.set m (some (.map (jF (L1.take (q+1)))))):=by
   intro q t ht d rg;have hts:t.rshp=true:=(hU.tidy t (hK1.sub t (List.mem_of_getElem? ht))).rshp;obtain ⟨f,hf,_,h2⟩:=@zhi (L1.take q) t hts fun u hu=>(hU.tidy u (hK1.sub u (List.mem_of_mem_take hu))).rshp;have hni:inL (L1.take q) t=false:=by
    rw [Bool.eq_false_iff];intro hi;have hi:=wr.1 hi;have hn:=hN1;rw [<- List.take_append_drop q L1,List.nodup_append]at hn;refine hn.2.2 t hi t ?_ rfl;rw [List.mem_iff_getElem?];exact ⟨0,by rw [List.getElem?_drop];exact ht⟩
   rw [hni]at h2;have hfn:f=none:=by cases f with|none=>rfl|some _=>cases h2
   subst hfn;have hh:(S6.set m (some (.map (jF (L1.take q))))).heap m=some (.map (jF (L1.take q))):=if_pos rfl;have hro:(S6.set m (some (.map (jF (L1.take q))))).ro <=m:=r6;have hst:∀a b,(S6.set m a).set m b=S6.set m b:=fun a b=>by
    unfold AS.set;simp only [AS.mk.injEq,and_true];funext x;split<;>rfl
   have he:jF (L1.take q)++[(.string t.text,.sc (.bool true))]=jF (L1.take (q+1)):=by
    rw [List.take_add_one,ht];exact zq2.symm
   simp only [za,hro,qm,hh,hf,Option.map_some,AV.isReg,and_self,if_true,hst,he]
  refine ko (α:=Nat) (R:=fun _ r=>RT S b r) (fun q e rg S'=>q <=L1.length /\ NQ [10,43,44,45,46,47,48,49,50] [10] e /\ NQ [5,13,14,56,57,58,59,60,61,62,63,64,65,66,67,68,69,70,71] [13] e /\ e 40=zf L1 /\ e 41=.sc (.int .i64 (L1.length:Nat)) /\ e 42=.sc (.int .i64 (q:Nat)) /\
   e 8=.reg 8 0 /\ rg 8=some [.ptr kid1 0 0,.ptr kid2 0 0,.mp m] /\ e 7=zf L2 /\ e 4=.reg 4 0 /\ rg 4=some [.i 0,.s ⟨#[]⟩,.lst 0 true []] /\ rg 13=none /\ S'=S6.set m (some (.map (jF (L1.take q))))) (fun q=>L1.length - q) (fun _ _ _ _ h=>h.2.1) ?_ 0 _ _ _ ?_
  rotate_left
  ·refine ⟨by omega,?_,?_,by simp,by simp,by simp,by simp,by simp,by simp,by simp,by simp,by simp,start⟩
   ·repeat (first|exact vx (by simp [hxr])|refine yh ?_ (by simp [hxr,v2r]))
   ·repeat (first|exact vx (by simp [hxr])|refine yh ?_ (by simp [hxr,v2r]))
  intro kk hkk q e rg S' ⟨hq,hn1,hn0,g40,g41,g42,g8,gr8,g7,g4,gr4,gr13,hS'⟩ ih;subst hS';by_cases hc:q < L1.length
  ·obtain ⟨t,ht⟩:=jK hc;have hty:=hU.tidy t (hK1.sub t (List.mem_of_getElem? ht));have w2:IntKind.i64.wrap ((q:Int)+1)=((q+1:Nat):Int):=w64 (by omega);have hcq:(q:Int) < (L1.length:Int):=by omega
   have e121:=fun S=>@zhl S t hty;have ms:=hms q t ht;simp [-zg,zk2,g40,g41,g42,g8,gr8,hcq,zI ht,e121,ms,w2];refine ih (q+1) _ _ _ (by omega) (fun _ h=>h) ?_;refine ⟨by omega,?_,?_,by simp [g40],by simp [g41],by simp,by simp [g8],by simp [gr8],by simp [g7],by simp [g4],by simp [gr4],by simp [gr13],rfl⟩
   ·repeat (first|exact zaH hn1|refine yh ?_ (by simp))
   ·repeat (first|exact jL hn0|refine yh ?_ (by simp))
  ·have hq':q=L1.length:=by omega
   subst hq';rw [List.take_length];simp [-zg,zk2,g41,g42];rw [hkk];clear hkk ih;obtain ⟨S7,hS7⟩:∃S7,S7=S6.set m (some (.map (jF L1))):=⟨_,rfl⟩;rw [<- hS7];have hh7:∀x,x≠m -> S7.heap x=S6.heap x:=fun x hx=>by rw [hS7];exact if_neg hx
   have V7:Vw c1 S7:=⟨⟨M1',M2',q1.keep (by rw [hS7];rfl) (by rw [hS7];exact Nat.le_refl _) fun x _ hx=>hh7 x (n1m x hx),q2.keep (by rw [hS7];rfl) (by rw [hS7];exact Nat.le_refl _) fun x _ hx=>hh7 x (n2m x hx)⟩,V6.ap,by rw [hS7];exact if_pos rfl,V6.m1,V6.m2,by rw [hS7];exact V6.lm,fun u hu=>(hU.tidy u (hK1.sub u hu)).rshp⟩;have r7:S7.ro <=S7.n:=by rw [hS7];show S6.ro <=S6.n;omega
   have e258:=@zCI S7 c1 r7;have e258:call 258 [.agg [.ptr kid1 0 0,.ptr kid2 0 0,.mp m]] S7=some (.mp S7.n,S7.new (.map (TW c1))):=e258;have hQ8:VQ c1 S7 (S7.new (.map (TW c1))):=V7.alloc rfl (Nat.le_succ _) fun x hx=>if_neg (by omega);simp [-zg,g8,gr8,g7,e258];have h00:L2.any (jN L1 L2 L1)=(L2.drop 0).any (jN L1 L2 L1):=rfl;rw [<- hbb,h00];refine ko (α:=Nat) (R:=fun q r=>RT S ((L2.drop q).any (jN L1 L2 L1)) r) (fun q e rg S'=>q <=L2.length /\ NQ [5,13,14,56,57,58,59,60,61,62,63,64,65,66,67,68,69,70,71] [13] e /\ e 53=zf L2 /\ e 54=.sc (.int .i64 (L2.length:Nat)) /\ e 55=.sc (.int .i64 (q:Nat)) /\ e 11=.mp S7.n /\
    e 4=.reg 4 0 /\ rg 4=some [.i 0,.s ⟨#[]⟩,.lst 0 true []] /\ VQ c1 (S7.new (.map (TW c1))) S') (fun q=>L2.length - q) (fun _ _ _ _ h=>h.2.1) ?_ 0 _ _ _ ?_
   rotate_left
   ·refine ⟨by omega,?_,by simp,by simp,by simp,by simp,by simp [g4],by simp [gr4],VQ.refl hQ8.1⟩
    ·repeat (first|exact jL hn0|exact hn0|refine yh ?_ (by simp))
   intro kk hkk q e rg S' ⟨hq,hn0,g53,g54,g55,g11,g4,gr4,hQ⟩ ih;have hw:S'.heap S7.n=some (.map (TW c1)):=(hQ.2.2.2 S7.n (Nat.lt_succ_self _) (by have:=V7.ex;obtain ⟨_,_,a,_⟩:=this;have:=a.lj;omega) (by have:=V7.ex;obtain ⟨_,_,_,a⟩:=this;have:=a.lj;omega)).trans jw;have rS:S'.ro <=S'.n:=by have h1:=hQ.2.1;have h2:=hQ.2.2.1;have h3:(S7.new (.map (TW c1))).ro=S7.ro:=rfl;have h4:(S7.new (.map (TW c1))).n=S7.n+1:=rfl;omega
   by_cases hc:q < L2.length
   ·obtain ⟨t,ht⟩:=jK hc;have htU:=hK2.sub t (List.mem_of_getElem? ht);have hty:=hU.tidy t htU;have w2:IntKind.i64.wrap ((q:Int)+1)=((q+1:Nat):Int):=w64 (by omega);have hcq:(q:Int) < (L2.length:Int):=by omega
    obtain ⟨hi,he⟩:=List.getElem?_eq_some_iff.1 ht;have hbq:(L2.drop q).any (jN L1 L2 L1)=(jN L1 L2 L1 t ||(L2.drop (q+1)).any (jN L1 L2 L1)):=by rw [List.drop_eq_getElem_cons hi,he,List.any_cons]
    have nf1:pev (.nilF true) [.sc .nilFunc]=some (.sc (.bool false)):=rfl;have nf2:∀k,pev (.nilF true) [fw c1 k]=some (.sc (.bool true)):=fun k=>rfl;have fwr:∀k,(fw c1 k).isReg=false:=fun k=>rfl;rcases @zxZ c1 t hty (h9 t htU) with ⟨hno,lk⟩|⟨k,lk,hts⟩
    ·have lk':=lk S' S7.n hw;have hno:jN L1 L2 L1 t=false:=hno;rw [hno,Bool.false_or]at hbq;simp [-zg,zex,g53,g54,g55,g11,hcq,zI ht,lk',nf1,w2];refine ih (q+1) _ _ _ (by omega) (fun _ h=>by rw [hbq];exact h) ?_;refine ⟨by omega,?_,by simp [g53],by simp [g54],by simp,by simp [g11],by simp [g4],by simp [gr4],hQ⟩
     repeat (first|exact zaH hn0|refine yh ?_ (by simp))
    ·have lk':=lk S' S7.n hw;obtain ⟨S'',hQ',hcall⟩:=hts S' hQ.1 rS;have hcv:zeK AA S' [fw c1 k,.agg t.cells]=some (.sc (.bool (jN L1 L2 L1 t)),S''):=hcall;cases htt:jN L1 L2 L1 t with
     |true=>
      rw [htt]at hcv hbq;rw [hbq,Bool.true_or];simp [-zg,zex,g53,g54,g55,g11,g4,gr4,hcq,zI ht,lk',nf2,hcv,fwr];rw [hkk];simp [-zg,g4,gr4];exact RT.mk
     |false=>
      rw [htt]at hcv hbq;rw [Bool.false_or]at hbq;simp [-zg,zex,g53,g54,g55,g11,hcq,zI ht,lk',nf2,hcv,fwr,w2];refine ih (q+1) _ _ _ (by omega) (fun _ h=>by rw [hbq];exact h) ?_;refine ⟨by omega,?_,by simp [g53],by simp [g54],by simp,by simp [g11],by simp [g4],by simp [gr4],hQ.trans hQ'⟩
      repeat (first|exact zaH hn0|refine yh ?_ (by simp [fwr]))
   ·have hq':q=L2.length:=by omega
    subst hq';rw [List.drop_length,List.any_nil];simp [-zg,zex,g54,g55];rw [hkk];simp [-zg,g4,gr4];exact RT.zero
end
def yP (k:T) (n:Int):T:=jr k (⟨#[117,115,101,32]⟩++zq n)
def yT (k:T) (n:Int):T:=jr k (⟨#[111,116,112,32]⟩++zq n)
def tWd (k:T):T:=jr k ⟨#[119,111,114,100]⟩
def qq (a b:T) (f g:ByteArray):T:=z8 (zO [jr a (⟨#[106,111,105,110,32]⟩++f),jr b (⟨#[106,111,105,110,32]⟩++g)])
def kY (s w o a b:T) (n:Int):T:=yP (z8 (zO [s,w,o,a,b])) n
def yG (k:T) (n:Int) (t:T):T:=jm (yP k n) t
def vc (k:T) (n:Int):List T -> T×Int
 |[a,b]=>if a.same (yP k n) then (b,0) else (tZ,4)
 |_=>(tZ,2)
def jl (k:T) (n:Int) (t:T):T×Int:=if t.kind=4 then vc k n t.kids else (tZ,2)
section
variable {S:AS}
theorem zpX {a:T} {w:ByteArray} {n:Int} (hw:w.size <=1000) (hn:inI n):call 368 [.agg a.cells,.sc (.string w),.sc (.int .i64 n)] S=some (.agg (jr a (w++⟨#[32]⟩++zq n)).cells,S):=by
 rw [zh zIV rfl (by simp) rfl];have e1:=fun S=>@zeE S n hn;have h32:(⟨#[32]⟩:ByteArray).size=1:=rfl;have p1:=yS (x:=w) (y:=⟨#[32]⟩) (by omega);have hs:=wI hn.1 hn.2;have p2:=yS (x:=w++⟨#[32]⟩) (y:=zq n) (by rw [ByteArray.size_append];omega);simp [zg0,znH,e1,p1,p2]
theorem zgx {a:T} {n:Int} (hn:inI n):call 354 [.agg a.cells,.sc (.int .i64 n)] S=some (.agg (yP a n).cells,S):=by
 rw [zh zCj rfl (by simp) rfl];have e1:=fun S=>@zpX S a ⟨#[117,115,101]⟩ n (by show 3 <=1000;omega) hn;have h1:(⟨#[117,115,101]⟩:ByteArray)++⟨#[32]⟩=⟨#[117,115,101,32]⟩:=rfl;rw [h1]at e1;simp [ziE,zsg,e1,yP]
theorem zyS {a:T} {n:Int} (hn:inI n):call 278 [.agg a.cells,.sc (.int .i64 n)] S=some (.agg (yT a n).cells,S):=by
 rw [zh zHE rfl (by simp) rfl];have e1:=fun S=>@zpX S a ⟨#[111,116,112]⟩ n (by show 3 <=1000;omega) hn;have h1:(⟨#[111,116,112]⟩:ByteArray)++⟨#[32]⟩=⟨#[111,116,112,32]⟩:=rfl;rw [h1]at e1;simp [zjw,zos,e1,yT]
theorem zgt {a:T} {n:Int} (hn:inI n) (h0:n≠ -9223372036854775808):call 336 [.agg a.cells,.sc (.int .i64 n)] S=some (.agg (yP a n).cells,S):=by
 rw [zh zDd rfl (by simp) rfl];have e1:=fun S=>@zcX S n (by have:=hn.1;omega) hn.2;have h32:(⟨#[117,115,101,32]⟩:ByteArray).size=4:=rfl;have hs:=wI hn.1 hn.2;have p1:=yS (x:=⟨#[117,115,101,32]⟩) (y:=zq n) (by omega);simp [zhE,zom,e1,p1,yP]
theorem zsN {a:T} {n:Int} (hn:inI n) (h0:n≠ -9223372036854775808):call 158 [.agg a.cells,.sc (.int .i64 n)] S=some (.agg (yT a n).cells,S):=by
 rw [zh zzF rfl (by simp) rfl];have e1:=fun S=>@zcX S n (by have:=hn.1;omega) hn.2;have h32:(⟨#[111,116,112,32]⟩:ByteArray).size=4:=rfl;have hs:=wI hn.1 hn.2;have p1:=yS (x:=⟨#[111,116,112,32]⟩) (y:=zq n) (by omega);simp [zgm,zsk,e1,p1,yT]
@[simp] theorem zMr {a:T}:call 363 [.agg a.cells] S=some (.agg (tWd a).cells,S):=by
 rw [zh zDr rfl (by simp) rfl];simp [zhq,ztX,tWd]
theorem zmo {a b:T} {f g:ByteArray} (hf:f.size <=1000) (hg:g.size <=1000):call 350 [.agg a.cells,.agg b.cells,.sc (.string f),.sc (.string g)] S=some (.agg (qq a b f g).cells,S):=by
 rw [zh zy1 rfl (by simp) rfl];have h5:(⟨#[106,111,105,110,32]⟩:ByteArray).size=5:=rfl;have p1:=yS (x:=⟨#[106,111,105,110,32]⟩) (y:=f) (by omega);have p2:=yS (x:=⟨#[106,111,105,110,32]⟩) (y:=g) (by omega);have e1:∀(S:AS) (x y:T),call 126 [.lst 3 true [x.cells,y.cells]] S=some (.agg (zO [x,y]).cells,S):=fun S x y=>zlW zej (by show 2 * 48 <=_;omega);simp [zgj,zpC,p1,p2,e1,qq,zw]
theorem zqE {f:Bool} {l:List T} (hne:l≠[]) (hl:l.length * 48 <=140737488355328):call 385 [.lst 3 f (l.map T.cells)] S=some (.agg (zO l).cells,S):=by
 rw [wR zyK (args':=[zf l]) (by first|rw [yU,yU,zfH _ _ _ (fun _=>rfl)]|simp) (by first|rw [yU,yU,zfH _ _ _ (fun _=>rfl)]|simp) rfl];have e:=@zmj S (AS.new ⟨S.heap,S.n,S.n⟩ (.rows 3 (l.map T.cells))) 3 ⟨#[]⟩ S.n 0 l.length none l (by
  have:=@wD (AS.new ⟨S.heap,S.n,S.n⟩ (.rows 3 (l.map T.cells))) S.n S.n 3 _ jw (Nat.le_refl _);simpa using this)
 have hap:∀d rg,za (.append 3 48) d rg ⟨S.heap,S.n,S.n⟩ [.lst 3 true [],zf l]=some (.arr S.n 3 0 l.length none,none,AS.new ⟨S.heap,S.n,S.n⟩ (.rows 3 (l.map T.cells))):=fun d rg=>by
  have hr:zv 3 ⟨S.heap,S.n,S.n⟩ (zf l)=some (l.map T.cells):=zd5 _ l;have hem:(l.map T.cells).isEmpty=false:=by cases l with|nil=>exact absurd rfl hne|cons _ _=>rfl
  simp [za,hr,jd,hem,hl];exact fun h=>absurd h hne
 simp only [zgr];simp [-zg,znK,hap,zw];exact e
theorem zkx {a b:T} {f g:ByteArray} (hf:f.size <=1000) (hg:g.size <=1000):call 293 [.agg a.cells,.agg b.cells,.sc (.string f),.sc (.string g)] S=some (.agg (qq a b f g).cells,S):=by
 rw [zh zBe rfl (by simp) rfl];have h5:(⟨#[106,111,105,110,32]⟩:ByteArray).size=5:=rfl;have p1:=yS (x:=⟨#[106,111,105,110,32]⟩) (y:=f) (by omega);have p2:=yS (x:=⟨#[106,111,105,110,32]⟩) (y:=g) (by omega);have e1:∀(S:AS) (x y:T),call 385 [.lst 3 true [x.cells,y.cells]] S=some (.agg (zO [x,y]).cells,S):=fun S x y=>zqE (l:=[x,y]) (by simp) (by simp);simp [zgK,zn8,p1,p2,e1,qq,zw]
theorem zvk {s w o a b:T} {n:Int} (hn:inI n):call 364 [.agg s.cells,.agg w.cells,.agg o.cells,.agg a.cells,.agg b.cells,.sc (.int .i64 n)] S=some (.agg (kY s w o a b n).cells,S):=by
 rw [zh zx8 rfl (by simp) rfl];have e1:∀(S:AS),call 126 [.lst 3 true [s.cells,w.cells,o.cells,a.cells,b.cells]] S=some (.agg (zO [s,w,o,a,b]).cells,S):=fun S=>zlW (zcp (l:=[s,w,o,a,b])) (by show 5 * 48 <=_;omega);have e2:=fun S k=>@zgx S k n hn;simp [zhV,ztZ,e1,e2,kY,zw]
theorem zfV {k t:T} {n:Int} (hn:inI n):call 261 [.agg k.cells,.sc (.int .i64 n),.agg t.cells] S=some (.agg (yG k n t).cells,S):=by
 rw [zh zH7 rfl (by simp) rfl];have e2:=fun S=>@zgx S k n hn;simp [ziM,zsG,e2,yG]
theorem zjF {k t:T} {n:Int} (hn:inI n) (h0:n≠ -9223372036854775808):call 266 [.agg k.cells,.sc (.int .i64 n),.agg t.cells] S=some (.agg (yG k n t).cells,S):=by
 rw [zh zws rfl (by simp) rfl];have e2:=fun S=>@zgt S k n hn h0;simp [zgO,zrv,e2,yG]
def zy (r:T×Int):AV:=.tup [.agg r.1.cells,.sc (.int .i64 r.2)]
theorem zq0 {k t:T} {n:Int} (hn:inI n) (ht:t.fits):call 263 [.agg k.cells,.sc (.int .i64 n),.agg t.cells] S=some (zy (jl k n t),S):=by
 rw [zh zwh rfl (by simp) rfl];have e2:=fun S=>@zgx S k n hn;unfold jl;by_cases h4:t.kind=4
 ·rw [if_pos h4];by_cases h2:t.kids.length=2
  ·obtain ⟨a,b,hab⟩:∃a b,t.kids=[a,b]:=by
    match hl:t.kids,h2 with
    |[a,b],_=>exact ⟨a,b,rfl⟩
   have l0:pev (.iaddr 3) [zf t.kids,.i 0]=some (.iptr a.cells):=zI (i:=0) (by rw [hab];rfl);have l1:pev (.iaddr 3) [zf t.kids,.i 1]=some (.iptr b.cells):=zI (i:=1) (by rw [hab];rfl);have fa:a.fits:=(T.fits_kids ht).2 a (by rw [hab];simp);have h2':(t.kids.length:Int)=2:=by omega
   cases hs:a.same (yP k n) with
   |true=>
    have hr:vc k n t.kids=(b,0):=by rw [hab];simp [vc,hs]
    rw [hr];simp [zcO,zfD,eq_true h4,h2',l0,l1,fa,e2,hs,zy]
   |false=>
    have hr:vc k n t.kids=(tZ,4):=by rw [hab];simp [vc,hs]
    rw [hr];simp [zcO,zfD,eq_true h4,h2',l0,l1,fa,e2,hs,zy,tZ,T.cells,yr];rfl
  ·have hr:vc k n t.kids=(tZ,2):=by
    unfold vc;split
    ·rename_i heq;rw [heq]at h2;simp at h2
    ·rfl
   rw [hr];have h2':¬(t.kids.length:Int)=2:=by omega
   simp [zcO,zfD,eq_true h4,h2',zy,tZ,T.cells,yr];rfl
 ·rw [if_neg h4];simp [zcO,zfD,h4,zy,tZ,T.cells,yr];rfl
theorem zjW {k t:T} {n:Int} (hn:inI n) (h0:n≠ -9223372036854775808) (ht:t.fits):call 268 [.agg k.cells,.sc (.int .i64 n),.agg t.cells] S=some (zy (jl k n t),S):=by
 rw [zh zAJ rfl (by simp) rfl];have e2:=fun S=>@zgt S k n hn h0;unfold jl;by_cases h4:t.kind=4
 ·rw [if_pos h4];by_cases h2:t.kids.length=2
  ·obtain ⟨a,b,hab⟩:∃a b,t.kids=[a,b]:=by
    match hl:t.kids,h2 with
    |[a,b],_=>exact ⟨a,b,rfl⟩
   have l0:pev (.iaddr 3) [zf t.kids,.i 0]=some (.iptr a.cells):=zI (i:=0) (by rw [hab];rfl);have l1:pev (.iaddr 3) [zf t.kids,.i 1]=some (.iptr b.cells):=zI (i:=1) (by rw [hab];rfl);have fa:a.fits:=(T.fits_kids ht).2 a (by rw [hab];simp);have h2':(t.kids.length:Int)=2:=by omega
   cases hs:a.same (yP k n) with
   |true=>
    have hr:vc k n t.kids=(b,0):=by rw [hab];simp [vc,hs]
    rw [hr];simp [zbY,zfi,eq_true h4,h2',l0,l1,fa,e2,hs,zy]
   |false=>
    have hr:vc k n t.kids=(tZ,4):=by rw [hab];simp [vc,hs]
    rw [hr];simp [zbY,zfi,eq_true h4,h2',l0,l1,fa,e2,hs,zy,tZ,T.cells,yr];rfl
  ·have hr:vc k n t.kids=(tZ,2):=by
    unfold vc;split
    ·rename_i heq;rw [heq]at h2;simp at h2
    ·rfl
   rw [hr];have h2':¬(t.kids.length:Int)=2:=by omega
   simp [zbY,zfi,eq_true h4,h2',zy,tZ,T.cells,yr];rfl
 ·rw [if_neg h4];simp [zbY,zfi,h4,zy,tZ,T.cells,yr];rfl
end
def zP:ByteArray:=⟨#[99,104,97,108,108,101,110,103,101]⟩
def zaL:ByteArray:=⟨#[116,105,109,101]⟩
def za4:ByteArray:=⟨#[99,108,105,101,110,116,99,104,97,108,108,101,110,103,101,97,114,109,111,114]⟩
def zbh:ByteArray:=⟨#[99,104,97,108,108,101,110,103,101,108,111,110,103,116,101,114,109]⟩
def tCk (a u:T):T:=qq a u za4 zbh
def zax (body:T) (now:Int):T:=zj zaL [qb now,z8 body]
def wJ (a u body:T) (now:Int):T:=zj zP [yG (tCk a u) 54 (zax body now)]
def zgJ (body b:T) (now n:Int):Int:=if b.same (z8 body) then (if (n - now).natAbs > 5 then 5 else 0) else 6
noncomputable def zhN (body:T) (now:Int):List T -> Int
 |[a,b]=>match kD a with
  |some n=>zgJ body b now n
  |none=>2
 |_=>2
noncomputable def zic (body:T) (now:Int) (r:T×Int):Int:=if r.2=4 then 6 else if r.2=0 then (match yw zaL 2 r.1 with|some l=>zhN body now l|none=>2) else r.2
noncomputable def zcL (a u body p:T) (now:Int):Int:=match yw zP 1 p with
 |some [x]=>zic body now (jl (tCk a u) 54 x)
 |_=>2
theorem zC9 {s:ByteArray} {o:Option Nat} {n:Int} {b:Nat} (h:wc s o=some n) (hb:∀k,o=some k -> k < b):n.natAbs < b:=by
 unfold wc at h;obtain ⟨k,hk,h⟩:=Option.bind_eq_some_iff.1 h;have:=hb k hk;by_cases hc:s.data[0]?=some 45
 ·simp only [hc,if_true]at h;split at h
  ·cases h;omega
  ·cases h
 ·simp only [hc,if_false]at h;split at h
  ·cases h;omega
  ·cases h
theorem zEL {t:T} {n:Int} (h:kD t=some n):n.natAbs < 1000000000000000000:=by
 unfold kD at h;obtain ⟨s,_,h⟩:=Option.bind_eq_some_iff.1 h;split at h
 ·rename_i h18;rw [<- zsq h18]at h;refine zC9 h fun k hk=>?_;have hlt:=zg3 (k:=0) (by omega) hk;have hpow:10 ^ (0+s.data.toList.length) <=10 ^ 18:=Nat.pow_le_pow_right (by omega) (by simp;omega);omega
 ·cases h
section
variable {S:AS}
theorem zCi {a u:T}:call 262 [.agg a.cells,.agg u.cells] S=some (.agg (tCk a u).cells,S):=by
 rw [zh zFj rfl (by simp) rfl];have e1:=fun S=>@zmo S a u za4 zbh (by show 20 <=1000;omega) (by show 17 <=1000;omega);simp only [za4,zbh]at e1;simp [zha,znn,e1,tCk,za4,zbh]
theorem zx5 {a u:T}:call 267 [.agg a.cells,.agg u.cells] S=some (.agg (tCk a u).cells,S):=by
 rw [zh zFI rfl (by simp) rfl];have e1:=fun S=>@zkx S a u za4 zbh (by show 20 <=1000;omega) (by show 17 <=1000;omega);simp only [za4,zbh]at e1;simp [zgi,zon,e1,tCk,za4,zbh]
theorem i54:inI 54:=by unfold inI;omega
theorem zvG {a u body:T} {now:Int} (hn:inI now):call 148 [.agg a.cells,.agg u.cells,.agg body.cells,.sc (.int .i64 now)] S=some (.agg (wJ a u body now).cells,S):=by
 rw [zh zzj rfl (by simp) rfl];have e1:=fun S=>@s66 S now hn;have e2:∀S,call 62 [.s ⟨#[116,105,109,101]⟩,.lst 3 true [(qb now).cells,(z8 body).cells]] S=some (.agg (zax body now).cells,S):=fun S=>p62 zej (by show 3 * 48 <=_;omega);have e3:∀S,call 62 [.s ⟨#[99,104,97,108,108,101,110,103,101]⟩,.lst 3 true [(yG (tCk a u) 54 (zax body now)).cells]] S=some (.agg (wJ a u body now).cells,S):=fun S=>p62 zgB (by show 2 * 48 <=_;omega);have e4:=fun S=>@zfV S (tCk a u) (zax body now) 54 i54;have e5:=fun S=>@zCi S a u;simp [zid,zt3,e1,e2,e3,e4,e5,zw]
end
abbrev T.bb (t:T):Prop:=t.bd 140737488355328
theorem T.bb_kids:∀{t:T},t.bb -> ∀u∈t.kids,u.bb
 | .mk _ _ _,h,u,hu=>zt4.1 h.2.2 u hu
theorem T.bb_len:∀{t:T},t.bb -> t.kids.length * 48 <=140737488355328
 | .mk _ _ _,h=>h.2.1
theorem T.bb_fits {t:T} (h:t.bb):t.fits:=T.fits_bd (by omega) h
theorem zep:tZ.bb:=⟨by show 0 <=_;omega,by show 0 * 48 <=_;omega,trivial⟩
theorem zde {k t:T} {n:Int} (h:t.bb):(jl k n t).1.bb:=by
 unfold jl;split
 ·unfold vc;split
  ·rename_i a b hab;split
   ·exact T.bb_kids h b (by rw [hab];simp)
   ·exact zep
  ·exact zep
 ·exact zep
section
variable {S:AS}
set_option maxHeartbeats 1000000 in
theorem zEd {a u body p:T} {now:Int} (hp:p.bb) (hn:now.natAbs <=1000000000000000):call 151 [.agg a.cells,.agg u.cells,.agg body.cells,.agg p.cells,.sc (.int .i64 now)] S=some (.sc (.int .i64 (zcL a u body p now)),S):=by
 rw [zh zFF rfl (by simp) rfl];have e1:=fun S=>@s79 S zP 1 p (by omega);simp only [zP]at e1;have e2:=fun S=>@zx5 S a u;unfold zcL;cases hu:yw zP 1 p with
 |none=>
  simp only [zP]at hu;simp [vt,kP,e1,hu,zN]
 |some l=>
  obtain ⟨hl,hm⟩:=qy (n:=1) hu
  match l,hl with
  |[x],_=>
   simp only [zP]at hu;have hx:=T.bb_kids hp x (hm x (by simp));have e3:=fun S=>@zjW S (tCk a u) x 54 i54 (by omega) (T.bb_fits hx);have hr:=@zde (tCk a u) x 54 hx;simp only;generalize jl (tCk a u) 54 x=r at e3 hr ⊢;obtain ⟨y,er⟩:=r;simp only at hr;have lx:pev (.iaddr 3) [zf [x],.i 0]=some (.iptr x.cells):=zI (i:=0) rfl;unfold zic;simp only;by_cases h4:er=4
   ·subst h4;simp [vt,kP,e1,e2,e3,hu,zN,zy,lx]
   ·by_cases h0:er=0
    ·subst h0;have e5:=fun S=>@s79 S zaL 2 y (by omega);simp only [zaL]at e5;cases hv:yw zaL 2 y with
     |none=>
      simp only [zaL]at hv;simp [vt,kP,e1,e2,e3,e5,hu,hv,zN,zy,lx]
     |some m=>
      obtain ⟨hml,hmm⟩:=qy (n:=2) hv
      match m,hml with
      |[c,b],_=>
       simp only [zaL]at hv;have hc:=T.bb_kids hr c (hmm c (by simp));have hb:=T.bb_kids hr b (hmm b (by simp));have e6:=fun S=>@s88 S c;have lc:pev (.iaddr 3) [zf [c,b],.i 0]=some (.iptr c.cells):=zI (i:=0) rfl;have lb:pev (.iaddr 3) [zf [c,b],.i 1]=some (.iptr b.cells):=zI (i:=1) rfl;have fb:=T.bb_fits hb;simp only [zhN];cases hnum:kD c with
       |none=>simp [vt,kP,e1,e2,e3,e5,e6,hu,hv,zN,zy,lx,lc,hnum,yQ]
       |some n=>
        have hlt:=zEL hnum;have w1:IntKind.i64.wrap (n - now)=n - now:=w64 (by omega);have w2:IntKind.i64.wrap (now - n)=now - n:=w64 (by omega);unfold zgJ;cases hs:b.same (z8 body) with
        |false=>simp [vt,kP,e1,e2,e3,e5,e6,hu,hv,zN,zy,lx,lc,lb,hnum,yQ,fb,hs]
        |true=>
         by_cases hl:n < now
         ·have g:¬now < n:=by omega
          by_cases h5:5 < now - n
          ·have h5':(n - now).natAbs > 5:=by omega
           simp [vt,kP,e1,e2,e3,e5,e6,hu,hv,zN,zy,lx,lc,lb,hnum,yQ,fb,hs,w2,hl,g,h5,h5']
          ·have h5':¬(n - now).natAbs > 5:=by omega
           simp [vt,kP,e1,e2,e3,e5,e6,hu,hv,zN,zy,lx,lc,lb,hnum,yQ,fb,hs,w2,hl,g,h5,h5']
         ·by_cases g:now < n
          ·by_cases h5:5 < n - now
           ·have h5':(n - now).natAbs > 5:=by omega
            simp [vt,kP,e1,e2,e3,e5,e6,hu,hv,zN,zy,lx,lc,lb,hnum,yQ,fb,hs,w1,hl,g,h5,h5']
           ·have h5':¬(n - now).natAbs > 5:=by omega
            simp [vt,kP,e1,e2,e3,e5,e6,hu,hv,zN,zy,lx,lc,lb,hnum,yQ,fb,hs,w1,hl,g,h5,h5']
          ·have h5':¬(n - now).natAbs > 5:=by omega
           simp [vt,kP,e1,e2,e3,e5,e6,hu,hv,zN,zy,lx,lc,lb,hnum,yQ,fb,hs,hl,g,h5']
    ·simp [vt,kP,e1,e2,e3,hu,zN,zy,lx,h4,h0]
end
def zG:ByteArray:=⟨#[111,116,112]⟩
def wz:ByteArray:=⟨#[99,111,100,101]⟩
def zL:ByteArray:=⟨#[115,112,97,107,101]⟩
def zch:ByteArray:=⟨#[102,97,99,116,111,114]⟩
def wH (n:T):T:=zj zG [n]
def zas (ak l c:T):T:=zj zG [yG ak 45 (zj wz [l,c])]
def za0 (ak offer c:T):T×Int:=match yw zG 1 offer with
 |some [x]=>(zas ak x c,0)
 |_=>(tZ,2)
def ye (x u:T):T:=ww (zZ x) (tWd u)
def wS (u y:T):T:=zj zL [ye y u]
def qZ (u w:T) (p:T):T×Int:=if p.kind=8 then (match p.kids with
 |[x]=>if w.same (tWd u) then (x,0) else (tZ,6)
 |_=>(tZ,2)) else (tZ,2)
def jX (u t:T):T×Int:=if t.kind=10 then (match t.kids with
 |[p,w]=>qZ u w p
 |_=>(tZ,2)) else (tZ,2)
def vw (x y u o a b:T) (n:Int):T:=kY (qH x y) (tWd u) o a (z8 b) n
def vL (x y u o a b:T):T:=yG (vw x y u o a b 1) 60 (zj zch [])
def zkZ (u b x l:T) (r:T×Int):T×T×Int:=if r.2=0 then (zj zL [ye x u,vL x r.1 u l (ye x u) b],vw x r.1 u l (ye x u) b 0,0) else (tZ,tZ,r.2)
def zcY (u b o x:T):T×T×Int:=match yw zL 1 o with
 |some [l]=>zkZ u b x l (jX u l)
 |_=>(tZ,tZ,2)
def zfK (u b y l f:T) (r:T×Int):T×Int:=if r.2=0 then (if f.same (vL r.1 y u (ye y u) l b) then (vw r.1 y u (ye y u) l b 0,0) else (tZ,6)) else (tZ,r.2)
def zbj (u b y p:T):T×Int:=match yw zL 2 p with
 |some [l,f]=>zfK u b y l f (jX u l)
 |_=>(tZ,2)
def exC (x y u o a b:T):List AV:=x.cells++(y.cells++(u.cells++(o.cells++(a.cells++b.cells))))
def zbe (x y:T):Prop:=∀S,call 127 [.agg x.cells,.agg y.cells] S=some (.agg (qH x y).cells,S)
theorem kK {x y u o a b:T}:exC x y u o a b=[.sc (.int .i64 x.kind),.sc (.string x.name),zf x.kids,.sc (.int .i64 y.kind),.sc (.string y.name),zf y.kids,.sc (.int .i64 u.kind),.sc (.string u.name),zf u.kids,
 .sc (.int .i64 o.kind),.sc (.string o.name),zf o.kids,.sc (.int .i64 a.kind),.sc (.string a.name),zf a.kids,.sc (.int .i64 b.kind),.sc (.string b.name),zf b.kids]:=by
 unfold exC;rw [zu x,zu y,zu u,zu o,zu a,zu b];rfl
section
variable {x y u o a b:T}
@[simp] theorem zKj:(exC x y u o a b).length=18:=by rw [kK];rfl
@[simp] theorem zLh:(exC x y u o a b).take 3=x.cells:=by rw [kK,zu x];rfl
@[simp] theorem zJp:((exC x y u o a b).drop 3).take 3=y.cells:=by rw [kK,zu y];rfl
@[simp] theorem zLd:((exC x y u o a b).drop 6).take 3=u.cells:=by rw [kK,zu u];rfl
@[simp] theorem zJy:((exC x y u o a b).drop 9).take 3=o.cells:=by rw [kK,zu o];rfl
@[simp] theorem zK7:((exC x y u o a b).drop 12).take 3=a.cells:=by rw [kK,zu a];rfl
@[simp] theorem zKx:((exC x y u o a b).drop 15).take 3=b.cells:=by rw [kK,zu b];rfl
@[simp] theorem zLY:(exC x y u o a b).drop 15=b.cells:=by rw [kK,zu b];rfl
@[simp] theorem zLU:(exC x y u o a b).take 18=exC x y u o a b:=by rw [kK];rfl
@[simp] theorem zLi:yU (exC x y u o a b)=exC x y u o a b:=by rw [kK];simp [zft]
theorem zxo:(exC x y u o a b).all AV.isCell=true:=by rw [kK];simp
@[simp] theorem zpo:(∀v:AV,v∈exC x y u o a b -> v.isCell=true)=True:=eq_true (List.all_eq_true.1 zxo)
end
theorem i45:inI 45:=by unfold inI;omega
theorem i60:inI 60:=by unfold inI;omega
theorem i1:inI 1:=by unfold inI;omega
theorem i0:inI 0:=by unfold inI;omega
section
variable {S:AS}
theorem zwd {ak o c:T} (ho:o.bb):call 156 [.agg ak.cells,.agg o.cells,.agg c.cells] S=some (zy (za0 ak o c),S):=by
 rw [zh zyX rfl (by simp) rfl];have e1:=fun S=>@s78 S zG 1 o (by have:=T.bb_len ho;omega);simp only [zG]at e1;unfold za0;cases hu:yw zG 1 o with
 |none=>
  simp only [zG]at hu;simp [f156,zkf,e1,hu,zN,zy,tZ,T.cells,yr];rfl
 |some l=>
  obtain ⟨hl,hm⟩:=qy (n:=1) hu
  match l,hl with
  |[x],_=>
   simp only [zG]at hu;have lx:pev (.iaddr 3) [zf [x],.i 0]=some (.iptr x.cells):=zI (i:=0) rfl;have e2:∀S,call 62 [.s ⟨#[99,111,100,101]⟩,.lst 3 true [x.cells,c.cells]] S=some (.agg (zj wz [x,c]).cells,S):=fun S=>p62 zej (by show 3 * 48 <=_;omega);have e3:=fun S=>@zfV S ak (zj wz [x,c]) 45 i45;have e4:∀S,call 62 [.s ⟨#[111,116,112]⟩,.lst 3 true [(yG ak 45 (zj wz [x,c])).cells]] S=some (.agg (zas ak x c).cells,S):=fun S=>p62 zgB (by show 2 * 48 <=_;omega);simp [f156,zkf,e1,hu,zN,zy,lx,e2,e3,e4]
@[simp] theorem zM7 {x u:T}:call 269 [.agg x.cells,.agg u.cells] S=some (.agg (ye x u).cells,S):=by
 rw [zh zER rfl (by simp) rfl];simp [zgS,zri,ye]
theorem ztf {x y u o a b:T} {n:Int} (hs:zbe x y) (hn:inI n):call 272 [.agg (exC x y u o a b),.sc (.int .i64 n)] S=some (.agg (vw x y u o a b n).cells,S):=by
 rw [zh zGF rfl (by simp) rfl];have e1:=hs;unfold zbe at e1;have e2:=fun S=>@zvk S (qH x y) (tWd u) o a (z8 b) n hn;simp [ziZ,zoQ,e1,e2,vw,zpo]
theorem zF1 {x y u o a b:T} (hs:zbe x y):call 271 [.agg (exC x y u o a b)] S=some (.agg (vL x y u o a b).cells,S):=by
 rw [zh zwt rfl (by simp) rfl];have e1:=fun S=>@ztf S x y u o a b 1 hs i1;have e2:∀S,call 62 [.s ⟨#[102,97,99,116,111,114]⟩,.lst 0 true []] S=some (.agg (zj zch []).cells,S):=fun S=>p62 zhm (by show 1 * 48 <=_;omega);have e3:=fun S=>@zfV S (vw x y u o a b 1) (zj zch []) 60 i60;simp [zht,znF,e1,e2,e3,vL,zpo]
theorem zuK {u t:T} (ht:t.bb):call 270 [.agg t.cells,.agg u.cells] S=some (zy (jX u t),S):=by
 rw [zh zyO rfl (by simp) rfl];unfold jX;by_cases h1:t.kind=10
 ·rw [if_pos h1];by_cases h2:t.kids.length=2
  ·obtain ⟨p,w,hpw⟩:∃p w,t.kids=[p,w]:=by
    match hl:t.kids,h2 with
    |[p,w],_=>exact ⟨p,w,rfl⟩
   have l0:pev (.iaddr 3) [zf t.kids,.i 0]=some (.iptr p.cells):=zI (i:=0) (by rw [hpw];rfl);have l1:pev (.iaddr 3) [zf t.kids,.i 1]=some (.iptr w.cells):=zI (i:=1) (by rw [hpw];rfl);have fw:w.fits:=T.bb_fits (T.bb_kids ht w (by rw [hpw];simp));have h2':(t.kids.length:Int)=2:=by omega
   have hr:(match t.kids with|[p,w]=>qZ u w p|_=>(tZ,2))=qZ u w p:=by rw [hpw]
   rw [hr];unfold qZ;by_cases h3:p.kind=8
   ·rw [if_pos h3];by_cases h4:p.kids.length=1
    ·obtain ⟨x,hx⟩:∃x,p.kids=[x]:=by
      match hl:p.kids,h4 with
      |[x],_=>exact ⟨x,rfl⟩
     have l2:pev (.iaddr 3) [zf p.kids,.i 0]=some (.iptr x.cells):=zI (i:=0) (by rw [hx];rfl);have h4':(p.kids.length:Int)=1:=by omega
     have hr:(match p.kids with|[x]=>if w.same (tWd u) then (x,(0:Int)) else (tZ,6)|_=>(tZ,2))=if w.same (tWd u) then (x,0) else (tZ,6):=by rw [hx]
     rw [hr];cases hs:w.same (tWd u) with
     |true=>simp [zaZ,zbL,eq_true h1,h2',l0,l1,l2,fw,eq_true h3,h4',hs,zy]
     |false=>
      simp [zaZ,zbL,eq_true h1,h2',l0,l1,l2,fw,eq_true h3,h4',hs,zy,tZ,T.cells,yr];rfl
    ·have hr:(match p.kids with|[x]=>if w.same (tWd u) then (x,(0:Int)) else (tZ,6)|_=>(tZ,2))=(tZ,2):=by
      split
      ·rename_i heq;rw [heq]at h4;simp at h4
      ·rfl
     have h4':¬(p.kids.length:Int)=1:=by omega
     rw [hr];simp [zaZ,zbL,eq_true h1,h2',l0,l1,eq_true h3,h4',zy,tZ,T.cells,yr];rfl
   ·rw [if_neg h3];simp [zaZ,zbL,eq_true h1,h2',l0,l1,h3,zy,tZ,T.cells,yr];rfl
  ·have hr:(match t.kids with|[p,w]=>qZ u w p|_=>(tZ,2))=(tZ,2):=by
    split
    ·rename_i heq;rw [heq]at h2;simp at h2
    ·rfl
   have h2':¬(t.kids.length:Int)=2:=by omega
   rw [hr];simp [zaZ,zbL,eq_true h1,h2',zy,tZ,T.cells,yr];rfl
 ·rw [if_neg h1];simp [zaZ,zbL,h1,zy,tZ,T.cells,yr];rfl
def zeo (r:T×T×Int):AV:=.tup [.agg r.1.cells,.agg r.2.1.cells,.sc (.int .i64 r.2.2)]
theorem zIF {x y u o a b:T}:pev (.build [.i 0,.s ⟨#[]⟩,.lst 0 true [],.i 0,.s ⟨#[]⟩,.lst 0 true [],.i 0,.s ⟨#[]⟩,.lst 0 true [],.i 0,.s ⟨#[]⟩,.lst 0 true [],.i 0,.s ⟨#[]⟩,.lst 0 true [],.i 0,.s ⟨#[]⟩,.lst 0 true []] [(0,3),(3,3),(6,3),(9,3),(12,3),(15,3)])
 [.agg x.cells,.agg y.cells,.agg u.cells,.agg o.cells,.agg a.cells,.agg b.cells]=some (.agg (exC x y u o a b)):=by
 rw [kK,zu x,zu y,zu u,zu o,zu a,zu b];simp
set_option maxHeartbeats 1000000 in
theorem zvT {u b o x:T} (ho:o.bb) (hs:∀l y,yw zL 1 o=some [l] -> jX u l=(y,0) -> zbe x y):call 154 [.agg u.cells,.agg b.cells,.agg o.cells,.agg x.cells] S=some (zeo (zcY u b o x),S):=by
 rw [zh zHa rfl (by simp) rfl];have e1:=fun S=>@s78 S zL 1 o (by have:=T.bb_len ho;omega);simp only [zL]at e1;unfold zcY;cases hu:yw zL 1 o with
 |none=>
  simp only [zL]at hu;simp [zd0,zgC,e1,hu,zN,zeo,tZ,T.cells,yr];rfl
 |some l=>
  obtain ⟨hl,hm⟩:=qy (n:=1) hu
  match l,hl with
  |[l],_=>
   have hs':=hs l;have hl:=T.bb_kids ho l (hm l (by simp));have ll:pev (.iaddr 3) [zf [l],.i 0]=some (.iptr l.cells):=zI (i:=0) rfl;have e2:=fun S=>@zuK S u l hl;simp only;cases hr:jX u l with
   |mk y er=>
    rw [hr]at e2;have hs2:=fun y'=>hs' y' hu;simp only [zL]at hu;unfold zkZ;by_cases h0:er=0
    ·subst h0;have hsy:=hs2 y hr;have e3:=fun S=>@zF1 S x y u l (ye x u) b hsy;have e4:=fun S=>@ztf S x y u l (ye x u) b 0 hsy i0;have e5:∀S,call 62 [.s ⟨#[115,112,97,107,101]⟩,.lst 3 true [(ye x u).cells,(vL x y u l (ye x u) b).cells]] S=some (.agg (zj zL [ye x u,vL x y u l (ye x u) b]).cells,S):=fun S=>p62 zej (by show 3 * 48 <=_;omega);simp [-vu,zd0,zgC,e1,hu,zN,zy,ll,e2,e3,e4,e5,zIF,zeo]
    ·simp [zd0,zgC,e1,hu,zN,zy,ll,e2,h0,zeo,tZ,T.cells,yr];rfl
end
section
variable {S:AS} {id:Nat} {l:List Int}
structure Upd (S S':AS) (id:Nat):Prop where
 n:S'.n=S.n
 ro:S'.ro=S.ro
 h:∀j,j≠id -> S'.heap j=S.heap j
end
section
variable {S:AS} {id:Nat} {m:List Int}
end
section
variable {S:AS} {id:Nat} {m:List Int}
end
section
variable {S:AS} {id:Nat} {m:List Int}
end
structure Tk where
 counter:Int
 look:Int
 sync:Int
 pending:Int
 fails:Int
 limit:Int
def Tk.cells (t:Tk):List AV:=[.sc (.int .i64 t.counter),.sc (.int .i64 t.look),.sc (.int .i64 t.sync),.sc (.int .i64 t.pending),.sc (.int .i64 t.fails),.sc (.int .i64 t.limit)]
@[simp] theorem Tk.nrm {t:Tk}:yU t.cells=t.cells:=by simp [Tk.cells]
@[simp] theorem Tk.len {t:Tk}:t.cells.length=6:=rfl
@[simp] theorem Tk.t0 {t:Tk}:t.cells.take 1=[.sc (.int .i64 t.counter)]:=rfl
@[simp] theorem Tk.t1 {t:Tk}:(t.cells.drop 1).take 1=[.sc (.int .i64 t.look)]:=rfl
@[simp] theorem Tk.t1' {t:Tk}:t.cells.tail.take 1=[.sc (.int .i64 t.look)]:=rfl
@[simp] theorem Tk.t2 {t:Tk}:(t.cells.drop 2).take 1=[.sc (.int .i64 t.sync)]:=rfl
@[simp] theorem Tk.t3 {t:Tk}:(t.cells.drop 3).take 1=[.sc (.int .i64 t.pending)]:=rfl
@[simp] theorem Tk.t6 {t:Tk}:t.cells.take 6=t.cells:=rfl
theorem Tk.cell {t:Tk}:t.cells.all AV.isCell=true:=rfl
@[simp] theorem Tk.cell' {t:Tk}:(∀v:AV,v∈t.cells -> v.isCell=true)=True:=eq_true (List.all_eq_true.1 Tk.cell)
def inB (n a b:Int):Bool:=decide (a <=n) && decide (n <=b)
def Tk.right (t:Tk):Bool:=inB t.counter 0 1099511627776 && (inB t.look 0 20 && (inB t.sync 0 50 && (inB t.pending 0 1099511627976 && (decide (0 <=t.fails) && inB t.limit 1 100))))
def rng (c:Int) (n:Nat):List Int:=(List.range n).map fun (i:Nat)=>c+(i:Int)
theorem zDh {c:Int} {n:Nat}:(rng c n).length=n:=by simp [rng]
theorem zwl {c:Int} {n:Nat}:rng c (n+1)=rng c n++[c+(n:Int)]:=by simp [rng,List.range_succ]
theorem ztA {c x:Int} {n:Nat}:x∈rng c n↔c <=x /\ x < c+(n:Int):=by
 simp only [rng,List.mem_map,List.mem_range];constructor
 ·rintro ⟨i,hi,rfl⟩;omega
 ·rintro ⟨h1,h2⟩;exact ⟨(x - c).toNat,by omega,by omega⟩
section
variable {S:AS}
end
def kR (r:List Int×Int):AV:=.tup [jA r.1,.sc (.int .i64 r.2)]
section
variable {S:AS}
theorem zAM {sz bytes:Nat} {S:AS} {s x:AV} {d:Option Nat} {rg:Nat -> Option (List AV)} {v:AV} {S':AS} {ys:List (List AV)} (hy:zv sz S x=some ys) (h:za (.append sz bytes) d rg S [s,x]=some (v,none,S')):jd sz bytes S s ys=some (v,S'):=by
 simp only [za,hy,Option.bind_some,Option.map_eq_some_iff]at h;obtain ⟨r,h1,h2⟩:=h;cases h2;exact h1
theorem zr2 {x:Int} (h:0 <=x /\ x <=4611686018427387904):inI x:=by unfold inI;omega
theorem Tk.right_iff {t:Tk}:t.right=true↔(0 <=t.counter /\ t.counter <=1099511627776) /\ (0 <=t.look /\ t.look <=20) /\ (0 <=t.sync /\ t.sync <=50) /\ (0 <=t.pending /\ t.pending <=1099511627976) /\ 0 <=t.fails /\ 1 <=t.limit /\ t.limit <=100:=by
 unfold Tk.right inB;simp only [Bool.and_eq_true,decide_eq_true_eq]
theorem zEj {l:List Int} {x:Int}:ji (l++[x])=ji l++[[.sc (.int .i64 x)]]:=by simp [ji]
end
section
variable {S:AS}
set_option maxHeartbeats 4000000 in
theorem zkk {t:Tk}:call 421 [.agg t.cells] S=some (.sc (.bool t.right),S):=by
 rw [zh zz9 rfl (by simp) rfl];unfold Tk.right inB;have t4:(t.cells.drop 4).take 1=[.sc (.int .i64 t.fails)]:=rfl;have t5:(t.cells.drop 5).take 1=[.sc (.int .i64 t.limit)]:=rfl;have t5':t.cells.drop 5=[.sc (.int .i64 t.limit)]:=rfl;by_cases h0:0 <=t.counter
 ·by_cases h1:t.counter <=1099511627776
  ·by_cases h2:0 <=t.look
   ·by_cases h3:t.look <=20
    ·by_cases h4:0 <=t.sync
     ·by_cases h5:t.sync <=50
      ·by_cases h6:0 <=t.pending
       ·by_cases h7:t.pending <=1099511627976
        ·by_cases h8:0 <=t.fails
         ·by_cases h9:1 <=t.limit
          ·simp [vy,kU,h0,h1,h2,h3,h4,h5,h6,h7,h8,h9,t4,t5,t5']
          ·simp [vy,kU,h0,h1,h2,h3,h4,h5,h6,h7,h8,h9,t4,t5,t5']
         ·simp [vy,kU,h0,h1,h2,h3,h4,h5,h6,h7,h8,t4,t5,t5']
        ·simp [vy,kU,h0,h1,h2,h3,h4,h5,h6,h7]
       ·simp [vy,kU,h0,h1,h2,h3,h4,h5,h6]
      ·simp [vy,kU,h0,h1,h2,h3,h4,h5]
     ·simp [vy,kU,h0,h1,h2,h3,h4]
    ·simp [vy,kU,h0,h1,h2,h3]
   ·simp [vy,kU,h0,h1,h2]
  ·simp [vy,kU,h0,h1]
 ·simp [vy,kU,h0]
end
@[simp] theorem Tk.frz {S:AS} {b d:Nat} {t:Tk}:zE (S.frzTo b d) t.cells=some t.cells:=by cases d<;>rfl
@[simp] theorem Tk.pure {t:Tk}:jR t.cells=true:=rfl
def zap (f t b h:Int):Int:=if (f <=h /\ h <=t) /\ h < 1099511627776 /\ (b < 0 \/ h < b) then h else b
def jQ (l:List Int) (f t:Int):Int:=l.foldl (zap f t) (-1)
def Tk.reach (t:Tk):Int×Int:=if t.right then (t.counter,max (t.counter+t.look+t.sync) t.pending) else (0,-1)
def Tk.acc0 (t:Tk) (l:List Int):Int:=if jQ l t.counter (t.counter+t.look) < 0 /\ t.counter+t.look < t.pending then jQ l t.pending t.pending else jQ l t.counter (t.counter+t.look)
def Tk.accept (t:Tk) (l:List Int):Tk×Int×Int:=
 if t.right then
  if t.limit <=t.fails then (t,0,7)
  else if 0 <=t.acc0 l then ({t with counter:=t.acc0 l+1,pending:=0,fails:=0},t.acc0 l,0)
  else if 0 <=jQ l (t.counter+t.look+1) (t.counter+t.look+t.sync) then ({t with fails:=t.fails+1,pending:=jQ l (t.counter+t.look+1) (t.counter+t.look+t.sync)+1},0,8)
  else ({t with fails:=t.fails+1,pending:=0},0,6)
 else (t,0,1)
section
variable {S:AS}
theorem zxV {t:Tk}:call 418 [.agg t.cells] S=some (.tup [.sc (.int .i64 t.reach.1),.sc (.int .i64 t.reach.2)],S):=by
 rw [zh zv5 rfl (by simp) rfl];have e:=fun S=>@zkk S t;unfold Tk.reach;cases hr:t.right with
 |false=>rw [hr]at e;simp [zew,zk1,e]
 |true=>
  rw [hr]at e;have h:=Tk.right_iff.1 hr;have w1:IntKind.i64.wrap (t.counter+t.look)=t.counter+t.look:=w64 (by omega);have w2:IntKind.i64.wrap (t.counter+t.look+t.sync)=t.counter+t.look+t.sync:=w64 (by omega);simp [zew,zk1,e,w1,w2]
theorem zlk {l:List Int} {f t:Int} (hl:l.length <=4611686018427387904):call 422 [jA l,.sc (.int .i64 f),.sc (.int .i64 t)] S=some (.sc (.int .i64 (jQ l f t)),S):=by
 rw [zh zFV rfl (by simp) rfl];simp only [zhd];simp [-zg,zqa];refine jY (α:=Nat) (R:=fun _ r=>zW S r=some (.sc (.int .i64 (jQ l f t)),S)) (fun i e rg S'=>i <=l.length /\ e 0=jA l /\ e 1=.sc (.int .i64 f) /\ e 2=.sc (.int .i64 t) /\ e 7=.sc (.int .i64 (jQ (l.take i) f t)) /\ e 8=.sc (.int .i64 (i:Nat))) (fun i=>l.length - i) ?_ 0 _ _ _ ?_;rotate_left
 ·exact ⟨by omega,by simp,by simp,by simp,by simp [jQ],by simp⟩
 intro kk hkk i e rg S' ⟨hi,h0,h1,h2,h7,h8⟩ ih;by_cases hc:i < l.length
 ·obtain ⟨x,hx⟩:∃x,l[i]?=some x:=⟨l[i],by simp [hc]⟩;have w2:IntKind.i64.wrap ((i:Int)+1)=((i+1:Nat):Int):=w64 (by omega);have hci:(i:Int) < (l.length:Int):=by omega
  have hst:jQ (l.take (i+1)) f t=zap f t (jQ (l.take i) f t) x:=by
   unfold jQ;rw [List.take_add_one,hx,Option.toList_some,List.foldl_append];rfl
  have hat:=@zzc l i x hx;have hat2:=hat;generalize jQ (l.take i) f t=b at *;have step:∀v:Int,zap f t b x=v -> ∀(e':Nat -> AV) (rg':Nat -> Option (List AV)) (S':AS),e' 0=jA l -> e' 1=.sc (.int .i64 f) -> e' 2=.sc (.int .i64 t) -> e' 7=.sc (.int .i64 v) -> e' 8=.sc (.int .i64 ((i:Int)+1)) ->
   zW S (fin [qN.tmp 6] (unw AA (some (.normal,st 53 e' rg' S')) kk))=some (.sc (.int .i64 (jQ l f t)),S):=by
   intro v hv e' rg' S' k0 k1 k2 k7 k8;exact ih (i+1) e' rg' S' (by omega) (fun _ h=>h) ⟨by omega,k0,k1,k2,by rw [k7,hst,hv],by rw [k8];rfl⟩
  unfold zap at step;by_cases c1:f <=x
  ·by_cases c2:x <=t
   ·by_cases c3:x < 1099511627776
    ·by_cases c4:b < 0
     ·simp [-zg,zbx,h0,h1,h2,h7,h8,hci,hat,c1,c2,c3,c4,w2];exact step x (if_pos ⟨⟨c1,c2⟩,c3,.inl c4⟩) _ _ _ (by simp [h0]) (by simp [h1]) (by simp [h2]) (by simp) (by simp)
     ·by_cases c5:x < b
      ·simp [-zg,zbx,h0,h1,h2,h7,h8,hci,hat,c1,c2,c3,c4,c5,w2];exact step x (if_pos ⟨⟨c1,c2⟩,c3,.inr c5⟩) _ _ _ (by simp [h0]) (by simp [h1]) (by simp [h2]) (by simp) (by simp)
      ·simp [-zg,zbx,h0,h1,h2,h7,h8,hci,hat,c1,c2,c3,c4,c5,w2];exact step b (if_neg (by rintro ⟨_,_,h|h⟩<;>omega)) _ _ _ (by simp [h0]) (by simp [h1]) (by simp [h2]) (by simp [h7]) (by simp)
    ·simp [-zg,zbx,h0,h1,h2,h7,h8,hci,hat,c1,c2,c3,w2];exact step b (if_neg (by rintro ⟨_,h,_⟩;omega)) _ _ _ (by simp [h0]) (by simp [h1]) (by simp [h2]) (by simp [h7]) (by simp)
   ·simp [-zg,zbx,h0,h1,h2,h7,h8,hci,hat,c1,c2,w2];exact step b (if_neg (by rintro ⟨⟨_,h⟩,_⟩;omega)) _ _ _ (by simp [h0]) (by simp [h1]) (by simp [h2]) (by simp [h7]) (by simp)
  ·simp [-zg,zbx,h0,h1,h2,h7,h8,hci,hat,c1,w2];exact step b (if_neg (by rintro ⟨⟨h,_⟩,_⟩;omega)) _ _ _ (by simp [h0]) (by simp [h1]) (by simp [h2]) (by simp [h7]) (by simp)
 ·have hi':i=l.length:=by omega
  subst hi';rw [List.take_length]at h7;simp [-zg,zbx,h0,h8];rw [hkk];simp [h7]
theorem zmw {l:List Int} {f t:Int} (hf:0 <=f):jQ l f t= -1 \/ (f <=jQ l f t /\ jQ l f t <=t /\ jQ l f t < 1099511627776):=by
 unfold jQ;have:∀(l:List Int) (b:Int),(b= -1 \/ (f <=b /\ b <=t /\ b < 1099511627776)) -> (l.foldl (zap f t) b= -1 \/ (f <=l.foldl (zap f t) b /\ l.foldl (zap f t) b <=t /\ l.foldl (zap f t) b < 1099511627776)):=by
  intro l
  induction l with
  |nil=>intro b h;exact h
  |cons x l ih=>
   intro b h;rw [List.foldl_cons];refine ih _ ?_;unfold zap;split
   ·rename_i h';exact .inr ⟨h'.1.1,h'.1.2,h'.2.1⟩
   ·exact h
 exact this l (-1) (.inl rfl)
def zec (r:Tk×Int×Int):AV:=.tup [.agg r.1.cells,.sc (.int .i64 r.2.1),.sc (.int .i64 r.2.2)]
theorem zEB {t:Tk} {l:List Int} (hl:l.length <=4611686018427387904) (hf:t.fails < 4611686018427387904):call 348 [.agg t.cells,jA l] S=some (zec (t.accept l),S):=by
 rw [zh zIw rfl (by simp) rfl];have e:=fun S=>@zkk S t;unfold Tk.accept;have t4:(t.cells.drop 4).take 1=[.sc (.int .i64 t.fails)]:=rfl;have t5:(t.cells.drop 5).take 1=[.sc (.int .i64 t.limit)]:=rfl;have t5':t.cells.drop 5=[.sc (.int .i64 t.limit)]:=rfl;cases hr:t.right with
 |false=>rw [hr]at e;simp [wm,zaO,e,zec]
 |true=>
  rw [hr]at e;rw [if_pos rfl];have h:=Tk.right_iff.1 hr;by_cases hlk:t.limit <=t.fails
  ·rw [if_pos hlk];simp [wm,zaO,e,t4,t5,t5',hlk,zec]
  ·rw [if_neg hlk];have w1:IntKind.i64.wrap (t.counter+t.look)=t.counter+t.look:=w64 (by omega);have e1:=fun S=>@zlk S l t.counter (t.counter+t.look) hl;have e2:=fun S=>@zlk S l t.pending t.pending hl;have e3:=fun S=>@zlk S l (t.counter+t.look+1) (t.counter+t.look+t.sync) hl;have b1:=@zmw l t.counter (t.counter+t.look) (by omega);have b2:=@zmw l t.pending t.pending (by omega);have b3:=@zmw l (t.counter+t.look+1) (t.counter+t.look+t.sync) (by omega);have w3:IntKind.i64.wrap (t.counter+t.look+1)=t.counter+t.look+1:=w64 (by omega);have w4:IntKind.i64.wrap (t.counter+t.look+t.sync)=t.counter+t.look+t.sync:=w64 (by omega);have w6:IntKind.i64.wrap (t.fails+1)=t.fails+1:=w64 (by omega);unfold Tk.acc0;generalize jQ l t.counter (t.counter+t.look)=L1 at *;generalize jQ l t.pending t.pending=L2 at *;generalize jQ l (t.counter+t.look+1) (t.counter+t.look+t.sync)=L3 at *;have w7:IntKind.i64.wrap (L1+1)=L1+1:=w64 (by omega);have w8:IntKind.i64.wrap (L2+1)=L2+1:=w64 (by omega);have w9:IntKind.i64.wrap (L3+1)=L3+1:=w64 (by omega);unfold zec Tk.cells at *;have hA0:∃A,A=(if L1 < 0 /\ t.counter+t.look < t.pending then L2 else L1):=⟨_,rfl⟩;obtain ⟨A,hA⟩:=hA0;rw [<- hA];have body:∀(cA:(L1 < 0 /\ t.counter+t.look < t.pending /\ A=L2) \/ (L1 < 0 /\ ¬t.counter+t.look < t.pending /\ A=L1) \/ (¬L1 < 0 /\ A=L1)),True:=fun _=>trivial;have cA:(L1 < 0 /\ t.counter+t.look < t.pending /\ A=L2) \/ (L1 < 0 /\ ¬t.counter+t.look < t.pending /\ A=L1) \/ (¬L1 < 0 /\ A=L1):=by
    by_cases h1:L1 < 0
    ·by_cases h2:t.counter+t.look < t.pending
     ·exact .inl ⟨h1,h2,by rw [hA,if_pos ⟨h1,h2⟩]⟩
     ·exact .inr (.inl ⟨h1,h2,by rw [hA,if_neg (fun h=>h2 h.2)]⟩)
    ·exact .inr (.inr ⟨h1,by rw [hA,if_neg (fun h=>h1 h.1)]⟩)
   clear hA body;have wA:IntKind.i64.wrap (A+1)=A+1:=w64 (by omega);by_cases hA0:0 <=A
   ·rw [if_pos hA0];rcases cA with ⟨c1,c2,rfl⟩|⟨c1,c2,rfl⟩|⟨c1,rfl⟩
    ·simp [wm,zaO,e,hlk,w1,e1,e2,c1,c2,hA0,wA]
    ·omega
    ·simp [wm,zaO,e,hlk,w1,e1,c1,hA0,wA]
   ·rw [if_neg hA0];by_cases h3:0 <=L3
    ·rw [if_pos h3];rcases cA with ⟨c1,c2,rfl⟩|⟨c1,c2,rfl⟩|⟨c1,rfl⟩
     ·simp [wm,zaO,e,hlk,w1,e1,e2,e3,c1,c2,hA0,w3,w4,w6,w9,h3]
     ·simp [wm,zaO,e,hlk,w1,e1,e3,c1,c2,hA0,w3,w4,w6,w9,h3]
     ·omega
    ·rw [if_neg h3];rcases cA with ⟨c1,c2,rfl⟩|⟨c1,c2,rfl⟩|⟨c1,rfl⟩
     ·simp [wm,zaO,e,hlk,w1,e1,e2,e3,c1,c2,hA0,w3,w4,w6,w9,h3]
     ·simp [wm,zaO,e,hlk,w1,e1,e3,c1,c2,hA0,w3,w4,w6,w9,h3]
     ·omega
end
end Abs
