/- A region in any order. -/
import Derived.Test.YtdiebjbepfjjfaaGreatDoorE2
import Derived.Scope
import Derived.IntWalk
import Derived.Below
import Derived.Carry
import Derived.Handed
import Derived.ChangeOld
import Derived.ChangeShapes
set_option linter.unusedVariables false
set_option linter.unusedSimpArgs false
set_option linter.unusedSectionVars false
namespace Abs
open Go
section
variable{A:zA}{R:ACode->ASt->Option (zL×ASt)}{P:Program}{K:Nat->Option Nat}
theorem zbQ{d:Option Nat}{v:AV}{b:Option (Nat×List AV)}{c:Option AS}{τ:ASt}:(App d v b c τ).tm=match d with|some d=>τ.tm.set d v|none=>τ.tm:=by
 unfold App ASt.put ASt.regs;cases d<;>cases b<;>rfl
theorem zem{d:Option Nat}{v:AV}{b:Option (Nat×List AV)}{c:Option AS}{τ:ASt}:(App d v b c τ).rg=match b with|some (t,cs)=>upd τ.rg t cs|none=>τ.rg:=by
 unfold App ASt.put ASt.regs;cases d<;>cases b<;>rfl
theorem zcJ{d:Option Nat}{v:AV}{b:Option (Nat×List AV)}{c:Option AS}{τ:ASt}:(App d v b c τ).S=c.getD τ.S:=by
 unfold App ASt.put ASt.regs;cases d<;>cases b<;>rfl
theorem znC{σ τ:ASt}(b:σ.tm=τ.tm)(c:σ.rg=τ.rg)(d:σ.S=τ.S):σ=τ:=by
 cases σ;cases τ;simp at b c d;simp[b,c,d]
theorem zgf{f g:vj}(h:wt f g=true):(∀t∈f.writes,t∉g.reads/\t∉g.writes)/\(∀t∈g.writes,t∉f.reads)/\
 (∀r,f.rw=some r->g.rr≠some r/\g.rw≠some r)/\(∀r,g.rw=some r->f.rr≠some r)/\(f.hw=true->g.hr=false/\g.hw=false)/\(g.hw=true->f.hr=false):=by
 simp only[wt,xab,List.all_eq_true,Bool.not_eq_true',Bool.or_eq_true]at h;obtain⟨⟨⟨⟨⟨l,m⟩,j⟩,k⟩,b⟩,c⟩:=h;refine⟨fun t d=>?_,fun t d=>?_,fun r i=>?_,fun r i=>?_,fun e=>?_,fun e=>?_⟩
 ·have:=l t d;simpa using this
 ·have:=m t d;simpa using this
 ·rw[i]at j;simpa using j
 ·rw[i]at k;simpa using k
 ·rcases b with b|b
  ·rw[e]at b;cases b
  ·exact b
 ·rcases c with c|c
  ·rw[e]at c;cases c
  ·exact c
theorem zys{f g:vj}{i:zu}(j:f=yh A.mode (ye A) i)(h:wt f g=true){v:AV}{b:Option (Nat×List AV)}{c:Option AS}{τ:ASt}(k:∀r cs,b=some (r,cs)->f.rw=some r)(l:∀S,c=some S->f.hw=true):
 Agr g (App i.dst v b c τ) τ:=by
 obtain⟨m,x,n,y,o,z⟩:=zgf h;refine⟨?_,?_,?_⟩
 ·intro t q;rw[zbQ];have s:f.writes=i.dst.toList:=by rw[j,zbv]
  cases u:i.dst with
  |none=>rfl
  |some d=>
   have:t≠d:=by
    rintro rfl;exact(m t (by rw[s,u];simp)).1 q
   simp only[xar,List.getElem?_set_ne (Ne.symm this)]
 ·intro r e;rw[zem];cases b with
  |none=>rfl
  |some p=>
   obtain⟨t,cs⟩:=p;have:r≠t:=by
    rintro rfl;exact(n r (k r cs rfl)).1 e
   simp only[upd,if_neg this]
 ·intro e;rw[zcJ];cases c with
  |none=>rfl
  |some S=>have:=(o (l S rfl)).1;rw[e]at this;cases this
theorem zyt{f g:vj}{i:zu}(j:g=yh A.mode (ye A) i)(h:wt f g=true){v:AV}{b:Option (Nat×List AV)}{c:Option AS}{τ:ASt}(k:∀r cs,b=some (r,cs)->g.rw=some r)(l:∀S,c=some S->g.hw=true):
 Agr f τ (App i.dst v b c τ):=by
 obtain⟨x,m,y,n,z,o⟩:=zgf h;refine⟨?_,?_,?_⟩
 ·intro t q;rw[zbQ];have s:g.writes=i.dst.toList:=by rw[j,zbv]
  cases u:i.dst with
  |none=>rfl
  |some d=>
   have:t≠d:=by
    rintro rfl;exact(m t (by rw[s,u];simp)) q
   simp only[xar,List.getElem?_set_ne (Ne.symm this)]
 ·intro r e;rw[zem];cases b with
  |none=>rfl
  |some p=>
   obtain⟨t,cs⟩:=p;have:r≠t:=by
    rintro rfl;exact(n r (k r cs rfl)) e
   simp only[upd,if_neg this]
 ·intro e;rw[zcJ];cases c with
  |none=>rfl
  |some S=>have:=o (l S rfl);rw[e]at this;cases this
theorem zuL{i j:zu}(h:wt (yh A.mode (ye A) i) (yh A.mode (ye A) j)=true){σ σ1 σ2:ASt}(g:step A R i σ=some σ1)(k:step A R j σ1=some σ2):
 ∃σ1',step A R j σ=some σ1'/\step A R i σ1'=some σ2:=by
 obtain⟨v,l,m,n,o,q⟩:=zfU g;have z:σ1=App i.dst v l m σ:=by
  have:=q σ ⟨fun _ _=>rfl,fun _ _=>rfl,fun _=>rfl⟩;rw[g]at this;cases this;rfl
 subst z;obtain⟨s,b,c,u,x,y⟩:=zfU k;have B:σ2=App j.dst s b c (App i.dst v l m σ):=by
  have:=y _ ⟨fun _ _=>rfl,fun _ _=>rfl,fun _=>rfl⟩;rw[k]at this;cases this;rfl
 have C:=y σ (zys rfl h n o);have E:=q (App j.dst s b c σ) (zyt rfl h u x);refine⟨_,C,?_⟩;rw[E,B];congr 1;obtain⟨F,O,I,Q,J,T⟩:=zgf h;apply znC
 ·simp only[zbQ];cases L:i.dst with
  |none=>rfl
  |some d=>
   cases M:j.dst with
   |none=>rfl
   |some e=>
    have:d≠e:=by
     rintro rfl;exact(F d (by rw[zbv,L];simp)).2 (by rw[zbv,M];simp)
    exact List.set_comm _ _ (Ne.symm this)
 ·simp only[zem];cases l with
  |none=>rfl
  |some p=>
   obtain⟨t,cs⟩:=p;cases b with
   |none=>rfl
   |some p'=>
    obtain⟨N,cs'⟩:=p';have:t≠N:=by
     rintro rfl;exact(I t (n t cs rfl)).2 (u t cs' rfl)
    funext r;simp only[upd];split
    ·split
     ·rename_i g k;exact absurd (g.symm.trans k) this
     ·rfl
    ·rfl
 ·simp only[zcJ];cases m with
  |none=>rfl
  |some S=>
   cases c with
   |none=>rfl
   |some S'=>have:=(J (o S rfl)).2;rw[x S' rfl]at this;cases this
theorem zfV{i:zu}{σ σ':ASt}(h:step A R i σ=some σ'){t:Nat}(b:i.dst≠some t):σ'.tm.getD t .junk=σ.tm.getD t .junk:=by
 obtain⟨v,g,j,_,_,c⟩:=zfU h;have:=c σ ⟨fun _ _=>rfl,fun _ _=>rfl,fun _=>rfl⟩;rw[h]at this;cases this;rw[zbQ];cases e:i.dst with
 |none=>rfl
 |some d=>
  have:d≠t:=by rintro rfl;exact b e
  simp only[xar,List.getElem?_set_ne this]
theorem zuO{i:zu}{a:Nat}(m:wN i=some a){σ σ':ASt}(h:step A R i σ=some σ'){id r c:Nat}(hp:σ.tm.getD a .junk=.ptr id r c):
 ∃f:yX->Option yX,σ.S.ro<=id/\(∃o o',σ.S.heap id=some o/\f o=some o'/\σ'={σ with S:=σ.S.set id (some o')})/\
  ∀τ:ASt,τ.tm=σ.tm->τ.S.ro=σ.S.ro->∀o o',τ.S.heap id=some o->f o=some o'->step A R i τ=some {τ with S:=τ.S.set id (some o')}:=by
 unfold wN at m;split at m
 ·rename_i y n B C;obtain⟨d,op,args,g⟩:=i;simp only at y n B C;subst y n B C;cases m;rename_i sz x;have p:∀τ:ASt,τ.tm=σ.tm->evs A τ.tm [.t a,x]=(x.ev A σ.tm).map fun v=>[.ptr id r c,v]:=by
   intro τ hτ;rw[hτ];have F:zo.ev A σ.tm (.t a)=some (.ptr id r c):=by rw[<-hp];rfl
   simp only[evs,F,xae,Option.map_map];cases x.ev A σ.tm<;>rfl
  have l:∀τ:ASt,τ.tm=σ.tm->step A R ⟨none,.st none sz,[.t a,x],none⟩ τ=((x.ev A σ.tm).map fun v=>[AV.ptr id r c,v]).bind fun vs=>(ze (.st none sz) none τ.rg τ.S vs).map fun q=>({τ with S:=q.2.2}:ASt).regs q.2.1:=by
   intro τ hτ;simp only[step,qB,p τ hτ];rfl
  rw[l σ rfl]at h;cases s:x.ev A σ.tm with
  |none=>rw[s]at h;cases h
  |some v=>
   rw[s]at h;simp only[xam,xae,xaf]at h;obtain⟨q,b,h⟩:=h;simp only[ze]at b;split at b
   ·rename_i E;refine⟨fun o=>match o with| .rows z rs=>(rs[r]?).bind fun cs=>if c+sz<=cs.length then some (.rows z (rs.set r (setCells cs c v.cells)))else none|_=>none,E.1,?_,?_⟩
    ·split at b
     ·rename_i z rs I;simp only[xaa]at b;obtain⟨cs,e,b⟩:=b;split at b
      ·rename_i j;cases b;exact⟨_,_,I,by simp only[e,xae,if_pos j],h.symm⟩
      ·cases b
     ·cases b
    ·intro τ hτ hro o o' n k;rw[l τ hτ,s];simp only[xam,xae];have u:τ.S.ro<=id/\v.cells.all AV.isCell=true/\v.cells.length=sz:=by rw[hro];exact E
     simp only[ze,if_pos u,n];cases o with
     |rows z rs=>
      simp only[xaa]at k;obtain⟨cs,e,k⟩:=k;split at k
      ·rename_i j;cases k;simp only[e,xae,if_pos j,xam];rfl
      ·cases k
     |_=>cases k
   ·cases b
 ·cases m
theorem zuN{i:zu}{a:Nat}(b:wN i=some a):i.dst=none:=by
 unfold wN at b;split at b
 ·assumption
 ·cases b
theorem zyx{x y:AV}(h:zcQ x y=true):∃id r c b d c',x=.ptr id r c/\y=.ptr b d c'/\id≠b:=by
 unfold zcQ at h;split at h
 ·rename_i i r c j d c';exact⟨i,r,c,j,d,c',rfl,rfl,by simpa using h⟩
 ·cases h
theorem zJ5{i j:zu}{a b:Nat}(v:wN i=some a)(x:wN j=some b){σ σ1 σ2:ASt}(y:step A R i σ=some σ1)(z:step A R j σ1=some σ2)(h:zcQ (σ2.tm.getD a .junk) (σ2.tm.getD b .junk)=true):
 ∃σ1',step A R j σ=some σ1'/\step A R i σ1'=some σ2:=by
 have C:=zuN v;have E:=zuN x;have t1:∀t,σ1.tm.getD t .junk=σ.tm.getD t .junk:=fun t=>zfV y (by rw[C];simp);have t2:∀t,σ2.tm.getD t .junk=σ1.tm.getD t .junk:=fun t=>zfV z (by rw[E];simp);rw[t2,t2,t1,t1]at h;obtain⟨id,r,c,d,U,c',F,I,e⟩:=zyx h;obtain⟨f,J,⟨o,o',L,M,rfl⟩,l⟩:=zuO v y F;obtain⟨g,B,⟨q,m,N,O,rfl⟩,n⟩:=zuO x z (by exact I);have p:σ.S.heap d=some q:=by
  have:(σ.S.set id (some o')).heap d=some q:=N;simp only[AS.set,if_neg (Ne.symm e)]at this;exact this
 have Q:=n σ rfl rfl q m p O;have s:(σ.S.set d (some m)).heap id=some o:=by
  simp only[AS.set,if_neg e];exact L
 have T:=l {σ with S:=σ.S.set d (some m)} rfl rfl o o' s M;refine⟨_,Q,?_⟩;rw[T];congr 1;simp only[ASt.mk.injEq,true_and];unfold AS.set;simp only[AS.mk.injEq,and_true];funext k;by_cases u:k=id
 ·have:¬k=d:=by rw[u];exact e
  simp[u,e]
 ·simp[u]
theorem zJQ{cs cs':List AV}{c sz:Nat}{cols:List Nat}(e:cs'.length=cs.length)(b:∀k,k∉cols->cs'[k]?=cs[k]?)(d:∀k∈cols,¬(c<=k/\k<c+sz)):(cs'.drop c).take sz=(cs.drop c).take sz:=by
 apply List.ext_getElem?;intro i;rw[xaq,xaq];split
 ·rename_i g;rw[List.getElem?_drop,List.getElem?_drop];exact b _ fun h=>d _ h ⟨by omega,by omega⟩
 ·rfl
theorem zr8{sz:Nat}{g:Bool}{d:Option Nat}{rg rg2:Nat->Option (List AV)}{S j:AS}{p v:AV}{s:Option (Nat×List AV)}{S':AS}{cols:List Nat}(l:∀id,S.n<=id->S.heap id=none)(B:Frm cols S j)(b:cols=[]\/(sz=1/\∀k∈cols,zc0 p k=true))
 (h:ze (.ld none sz g) d rg S [p]=some (v,s,S')):s=none/\S'=S/\ze (.ld none sz g) d rg2 j [p]=some (v,none,j):=by
 cases p with
 |iptr cs=>
  simp only[ze,xaf,Prod.mk.injEq]at h;obtain⟨u,i,rfl,rfl,rfl⟩:=h;refine⟨rfl,rfl,?_⟩;simp only[ze,i,xam]
 |ptr id row c=>
  simp only[ze]at h;split at h
  ·rename_i z rs m;simp only[xaa,xaf,Prod.mk.injEq]at h;obtain⟨cs,o,u,i,rfl,rfl,rfl⟩:=h;have q:id<S.n:=by
    rcases Nat.lt_or_ge id S.n with h|h
    ·exact h
    ·rw[l id h]at m;cases m
   obtain⟨C,E,F⟩:=B id _ q m;obtain⟨cs',I,x,J⟩:=F row cs o;refine⟨rfl,rfl,?_⟩;have r:∀k∈cols,¬(c<=k/\k<c+sz):=by
    intro k y;rcases b with rfl|⟨rfl,L⟩
    ·cases y
    ·have:=L k y;simp only[zc0,bne_iff_ne]at this;omega
   have e:yW cs' c sz g=some u:=by
    unfold yW at i ⊢;rw[x,zJQ x J r];exact i
   simp only[ze,E,I,xae,e,xam]
  ·cases h
 |_=>simp[ze]at h
theorem zzY(c:Ok P A K){key:Nat}{cols:List Nat}(b:A.mode key=.keepF cols){args:List AV}{S:AS}{r:AV×AS}(h:yq A R key args S=some r):Frm cols S r.2:=by
 unfold yq at h;split at h
 ·cases h
 ·split at h
  ·rename_i g d;exact c.frm key g cols d b args S r.1 r.2 h
  ·simp only[xaa]at h;obtain⟨af,e,h⟩:=h;rw[b]at h;simp only[xaa]at h;obtain⟨i,_,h⟩:=h;split at h
   ·cases h;assumption
   ·cases h
theorem Frm.refl{cols:List Nat}{S:AS}:Frm cols S S:=by
 intro id o _ h;cases o with
 |map es=>exact h
 |rows z rs=>exact⟨rs,h,fun r cs b=>⟨cs,b,rfl,fun _ _=>rfl⟩⟩
theorem zJ4(U:Ok P A K){i j:zu}{sz a key:Nat}{agg:Bool}{cols:List Nat}{σ σ1 σ2:ASt}(l:∀id,σ.S.n<=id->σ.S.heap id=none)(C:i.op=.ld none sz agg)(F:i.args=[.t a])(E:j.op=.call key)(V:A.mode key=.keepF cols)
 (x:∀t∈(yh A.mode (ye A) i).writes,t∉(yh A.mode (ye A) j).reads/\t∉(yh A.mode (ye A) j).writes) (I:∀t∈(yh A.mode (ye A) j).writes,t∉(yh A.mode (ye A) i).reads)
 (m:step A R i σ=some σ1) (O:step A R j σ1=some σ2) (o:cols=[]\/(sz=1/\∀k∈cols,zc0 (σ.tm.getD a .junk) k=true)):
 ∃σ1',step A R j σ=some σ1'/\step A R i σ1'=some σ2:=by
 have q:∃v,σ1=App i.dst v none none σ/\∀τ:ASt,(∀t∈zdZ i,τ.tm.getD t .junk=σ.tm.getD t .junk)->Frm cols σ.S τ.S->step A R i τ=some (App i.dst v none none τ):=by
  have c:∀τ:ASt,(∀t∈zdZ i,τ.tm.getD t .junk=σ.tm.getD t .junk)->qB τ.tm i.guard=qB σ.tm i.guard/\evs A τ.tm i.args=evs A σ.tm i.args:=by
   intro τ g;rw[zdZ]at g;exact⟨zrv fun t h=>g t (List.mem_append_right _ h),zeF fun t h=>g t (List.mem_append_left _ h)⟩
  unfold step at m;split at m
  ·cases m
  ·rename_i J;cases m;refine⟨.tup [],rfl,fun τ g _=>?_⟩;unfold step;rw[(c τ g).1,J];rfl
  ·rename_i J;have y:evs A σ.tm i.args=some [σ.tm.getD a .junk]:=by rw[F];rfl
   rw[y,C]at m;simp only[xae,y5]at m;simp only[xaf]at m;obtain⟨⟨v,ru,S'⟩,z,rfl⟩:=m;obtain⟨rfl,rfl,_⟩:=zr8 (rg2:=σ.rg) l Frm.refl o z;refine⟨v,rfl,fun τ g W=>?_⟩;obtain⟨_,_,X⟩:=zr8 (rg2:=τ.rg) l W o z;unfold step;rw[(c τ g).1,J];simp only[(c τ g).2,y,C,xae,y5,X,xam];rfl
 obtain⟨v,rfl,q⟩:=q;obtain⟨L,s,u,Y,q2,Q⟩:=zfU O;have B:Agr (yh A.mode (ye A) j) (App i.dst v none none σ) σ:=by
  refine⟨?_,fun _ _=>by rw[zem],fun _=>by rw[zcJ];rfl⟩;intro t g;rw[zbQ];cases M:i.dst with
  |none=>rfl
  |some d=>
   have:t≠d:=by
    rintro rfl;exact(x t (by rw[zbv,M];simp)).1 g
   simp only[xar,List.getElem?_set_ne (Ne.symm this)]
 have Z:σ2=App j.dst L s u (App i.dst v none none σ):=by
  have:=Q _ ⟨fun _ _=>rfl,fun _ _=>rfl,fun _=>rfl⟩;rw[O]at this;cases this;rfl
 have T:=Q σ B;have N:s=none:=by
  cases s with
  |none=>rfl
  |some p=>
   have:=Y p.1 p.2 rfl;unfold yh at this;rw[E]at this;simp only at this;split at this
   ·cases this
   ·split at this
    ·cases this
    ·cases this
 subst N;have l:Frm cols σ.S (App j.dst L none u σ).S:=by
  have b:=T;unfold step at b;split at b
  ·cases b
  ·have e:=congrArg ASt.S (Option.some.inj b);rw[zdX]at e;rw[<-e];exact Frm.refl
  ·simp only[xaa]at b;obtain⟨vs,_,b⟩:=b;rw[E]at b;simp only[y5,xaf]at b;obtain⟨r,hr,e⟩:=b;have e:=congrArg ASt.S e;rw[zdX]at e;rw[<-e];exact zzY U V hr
 have k2:=q (App j.dst L none u σ) (by
  intro t g;rw[zbQ];cases M:j.dst with
  |none=>rfl
  |some d=>
   have:t≠d:=by
    rintro rfl;exact I t (by rw[zbv,M];simp) (by rw[zrn];exact g)
   simp only[xar,List.getElem?_set_ne (Ne.symm this)]) l
 refine⟨_,T,?_⟩;rw[k2,Z];congr 1;apply znC
 ·simp only[zbQ];cases C:i.dst with
  |none=>rfl
  |some d=>
   cases E:j.dst with
   |none=>rfl
   |some e=>
    have:d≠e:=by
     rintro rfl;exact(x d (by rw[zbv,C];simp)).2 (by rw[zbv,E];simp)
    exact List.set_comm _ _ (Ne.symm this)
 ·simp only[zem]
 ·simp only[zcJ,Option.getD_none]
noncomputable def qp(A:zA)(R:ACode->ASt->Option (zL×ASt))(is:List zu):List Nat->ASt->Option ASt
 |[],σ=>some σ
 |i::l,σ=>match is[i]? with
  |some x=>(step A R x σ).bind (qp A R is l)
  |none=>none
theorem znh{is:List zu}:∀(l:List zu) (k:Nat) (σ:ASt),(∀j,j<l.length->is[k+j]?=l[j]?)->qp A R is (List.range' k l.length) σ=yK A R l σ
 |[],k,σ,_=>rfl
 |i::l,k,σ,h=>by
  have b:=h 0 (by simp);simp at b;simp only[xaI,List.range'_succ,qp,b,yK];congr 1;funext σ1;exact znh l (k+1) σ1 fun j c=>by
   have:=h (j+1) (by simp;omega);rw[<-Nat.add_assoc,Nat.add_right_comm]at this;simpa using this
theorem zjO{is:List zu}{t:Nat}:∀{l:List Nat} {σ σ':ASt},qp A R is l σ=some σ'->(∀k∈l,∀z,is[k]?=some z->z.dst≠some t)->σ'.tm.getD t .junk=σ.tm.getD t .junk
 |[],σ,σ',h,_=>by simp only[qp]at h;cases h;rfl
 |k::l,σ,σ',h,hw=>by
  simp only[qp]at h;split at h
  ·rename_i x b;simp only[xaa]at h;obtain⟨σ1,c,d⟩:=h;rw[zjO d fun k e=>hw k (List.mem_cons_of_mem _ e),zfV c (hw k List.mem_cons_self x b)]
  ·cases h
def zvl(A:zA)(is:List zu)(σ':ASt)(rest:List Nat)(y x:zu):Prop:=
 wt (yh A.mode (ye A) y) (yh A.mode (ye A) x)=true\/(∃a b,wN y=some a/\wN x=some b/\(zcQ (σ'.tm.getD a .junk) (σ'.tm.getD b .junk)=true/\∀k∈rest,∀z,is[k]?=some z->z.dst≠some a/\z.dst≠some b))\/
 ∃sz agg a key cols,y.op=.ld none sz agg/\y.args=[.t a]/\x.op=.call key/\A.mode key=.keepF cols/\(∀t∈(yh A.mode (ye A) y).writes,t∉(yh A.mode (ye A) x).reads/\t∉(yh A.mode (ye A) x).writes)/\(∀t∈(yh A.mode (ye A) x).writes,t∉(yh A.mode (ye A) y).reads)/\
  (cols=[]\/(sz=1/\∀k∈cols,zc0 (σ'.tm.getD a .junk) k=true))/\y.dst≠some a/\x.dst≠some a/\∀k∈rest,∀z,is[k]?=some z->z.dst≠some a
theorem zuQ(M:Ok P A K){is:List zu}{i:Nat}{x:zu}(N:is[i]?=some x){c:List Nat}{σ':ASt}:∀(pre:List Nat) (σ:ASt),(∀key cols,x.op=.call key->A.mode key=.keepF cols->∀id,σ.S.n<=id->σ.S.heap id=none)->
 (∀C j o,pre=C++j::o->∃y,is[j]?=some y/\zvl A is σ' (o++c) y x)->qp A R is (pre++i::c) σ=some σ'->∃σ1,step A R x σ=some σ1/\qp A R is (pre++c) σ1=some σ'
 |[],σ,_,_,h=>by
  simp only[List.nil_append,qp,N,xaa]at h;obtain⟨σ1,g,E⟩:=h;exact⟨σ1,g,E⟩
 |j::pre,σ,hfr,hap,h=>by
  obtain⟨y,O,p⟩:=hap [] j pre rfl;simp only[List.cons_append,qp,O,xaa]at h;obtain⟨σ1,g,E⟩:=h;have hS:∀key cols,x.op=.call key->A.mode key=.keepF cols->σ1.S=σ.S:=by
   intro key cols d l;have q:(yh A.mode (ye A) x).hw=true:=by
    unfold yh;rw[d];simp only;split
    ·rename_i h;rw[l]at h;rcases h.2 with h|h<;>cases h
    ·split
     ·rename_i _ h;rw[l]at h;cases h.2
     ·rfl
   have Q:(yh A.mode (ye A) y).hw=false->σ1.S=σ.S:=by
    intro F;obtain⟨v,ru,W,_,o,X⟩:=zfU g;have:=X σ ⟨fun _ _=>rfl,fun _ _=>rfl,fun _=>rfl⟩;rw[g]at this;cases this;rw[zcJ];cases W with
    |none=>rfl
    |some S=>have:=o S rfl;rw[F]at this;cases this
   rcases p with p|⟨a,b,T,r,_⟩|⟨sz,agg,a,key,cols,I,U,_⟩
   ·obtain⟨_,_,_,_,_,Y⟩:=zgf p;refine Q ?_;cases Z:(yh A.mode (ye A) y).hw with
    |false=>rfl
    |true=>have:=zAD Z;rw[Y q]at this;cases this
   ·unfold wN at r;rw[d]at r;split at r
    ·rename_i _ h _ _;cases h
    ·cases r
   ·refine Q ?_;unfold yh;rw[I]
  obtain⟨σ2,u,B⟩:=zuQ M N pre σ1 (fun key cols d l=>by rw[hS key cols d l];exact hfr key cols d l) (fun C k o e=>hap (j::C) k o (by rw[e];rfl)) E;have m:∃σ3,step A R x σ=some σ3/\step A R y σ3=some σ2:=by
   rcases p with p|⟨a,b,T,r,J,q⟩|⟨sz,agg,a,key,cols,I,U,V,l,t1,t2,s,yd,xd,q⟩
   ·exact zuL p g u
   ·refine zJ5 T r g u ?_;rw[<-zjO B fun k d z L=>(q k d z L).1,<-zjO B fun k d z L=>(q k d z L).2];exact J
   ·refine zJ4 M (hfr key cols V l) I U V l t1 t2 g u ?_;rw[<-zfV g yd,<-zfV u xd,<-zjO B q];exact s
  obtain⟨σ3,h5,h6⟩:=m;refine⟨σ3,h5,?_⟩;simp only[List.cons_append,qp,O,h6,xae];exact B
theorem zuP{is:List zu}{i:Nat}{x:zu}(e:is[i]?=some x){b:List Nat}:∀(pre:List Nat) (σ σ':ASt),
 (∀j∈pre,∃y,is[j]?=some y/\wt (yh A.mode (ye A) y) (yh A.mode (ye A) x)=true)->qp A R is (pre++i::b) σ=some σ'->∃σ1,step A R x σ=some σ1/\qp A R is (pre++b) σ1=some σ'
 |[],σ,σ',_,h=>by
  simp only[List.nil_append,qp,e,xaa]at h;obtain⟨σ1,c,d⟩:=h;exact⟨σ1,c,d⟩
 |j::pre,σ,σ',hap,h=>by
  obtain⟨y,g,k⟩:=hap j (by simp);simp only[List.cons_append,qp,g,xaa]at h;obtain⟨σ1,c,d⟩:=h;obtain⟨σ2,l,m⟩:=zuP e pre σ1 σ' (fun j n=>hap j (by simp[n])) d;obtain⟨σ3,o,p⟩:=zuL k c l;refine⟨σ3,o,?_⟩;simp only[List.cons_append,qp,g,p,xae];exact m
end
section
variable{A:zA}{D:Nat->Prop}{R:ACode->ASt->Option (zL×ASt)}{P:Program}{K:Nat->Option Nat}
def rem(n:Nat)(b:Array Bool):List Nat:=(List.range n).filter fun i=>!b.getD i true
theorem ztl{n i:Nat}(h:i<n):List.range n=List.range i++i::List.range' (i+1) (n-i-1):=by
 have e:n=i+(1+(n-i-1)):=by omega
 rw[List.range_eq_range',List.range_eq_range']
 conv=>lhs;rw[e]
 rw[<-List.range'_append_1,Nat.zero_add,Nat.add_comm 1,List.range'_succ]
theorem zdw{b:Array Bool}{i j:Nat}{d:Bool}(h:j≠i):(b.setIfInBounds i true).getD j d=b.getD j d:=by
 rw[Array.getD_eq_getD_getElem?,Array.getD_eq_getD_getElem?,Array.getElem?_setIfInBounds_ne (Ne.symm h)]
theorem zlK{b:Array Bool}{i:Nat}{d:Bool}(h:i<b.size):(b.setIfInBounds i true).getD i d=true:=by
 rw[Array.getD_eq_getD_getElem?,Array.getElem?_setIfInBounds_self_of_lt h];rfl
theorem ziW{b:Array Bool}{i:Nat}{d d':Bool}(h:i<b.size):b.getD i d=b.getD i d':=by
 rw[Array.getD_eq_getD_getElem?,Array.getD_eq_getD_getElem?,Array.getElem?_eq_getElem h];rfl
theorem zd1{n i:Nat}{b:Array Bool}(g:b.size=n)(e:i<n)(h:b.getD i true=false):
 ∃pre c,rem n b=pre++i::c/\rem n (b.setIfInBounds i true)=pre++c/\∀j∈pre,j<i/\b.getD j true=false:=by
 refine⟨(List.range i).filter fun i=>!b.getD i true,(List.range' (i+1) (n-i-1)).filter fun i=>!b.getD i true,?_,?_,?_⟩
 ·rw[rem,ztl e,List.filter_append,List.filter_cons,h];rfl
 ·rw[rem,ztl e,List.filter_append,List.filter_cons,zlK (by omega)];simp only[Bool.not_true,xau,if_false];congr 1
  ·apply List.filter_congr;intro j d;have:j<i:=by simpa using d
   rw[zdw (by omega)]
  ·apply List.filter_congr;intro j d;have:=(List.mem_range'_1.1 d).1;rw[zdw (by omega)]
 ·intro j d;simp only[List.mem_filter,List.mem_range,Bool.not_eq_true']at d;exact d
structure znF(ops:Array Oper)(fs:List vj)(bs:List Nat):Prop where
 on:∀(i:Nat) (o:Oper),ops[i]?=some o->∀e∈o.after,Region.binds .any e=true->e.on<i
 pair:∀i,i<ops.size->∀j,j<i->((bs.getD i 0).testBit j=true/\zcE ops bs i j=true)\/((bs.getD i 0).testBit j=false/\∃f g,fs[j]?=some f/\fs[i]?=some g/\wt f g=true)
theorem zz4{ops:Array Oper}{fs:List vj}(h:zjm P ops fs=true):(P.follows .mixedOrders||!Region.departs ops)=true/\znF ops fs (zgp ops.toList):=by
 simp only[zjm,xab]at h;obtain⟨⟨d,c⟩,k⟩:=h;refine⟨d,?_,?_⟩
 ·intro i o l e m b;rw[List.all_eq_true]at c;have n:(o,i)∈ops.toList.zipIdx:=by
   rw[List.mk_mem_zipIdx_iff_getElem?];simpa using l
  have:=c _ n;simp only[Array.all_eq_true_iff_forall_mem]at this;have:=this e m;rw[b]at this;simpa using this
 ·intro i p j q;simp only[zsP,List.all_eq_true,List.mem_range]at k;have:=k i p j q;split at this
  ·rename_i b;exact .inl ⟨b,this⟩
  ·rename_i b;right;refine⟨by simpa using b,?_⟩;split at this
   ·rename_i f g d c;exact⟨f,g,d,c,this⟩
   ·cases this
theorem zz6(hA:Ok P A K)(hR:jJ P A K R){ops:Array Oper}{is:List zu}{bs:List Nat}{Q:Exit->Act->World->Prop}(F:znF ops (is.map (yh A.mode (ye A))) bs)(W:wg P K ops ops.toList is=true):
 ∀(fuel:Nat) (b:Array Bool) (σ σ':ASt) (G:Gh) (ρ:Nat->Option Nat) (a:Act) (w:World),b.size=ops.size->(rem ops.size b).length=fuel->
  (∀k,k<ops.size->b.getD k true=true->∀j,j<k->(bs.getD k 0).testBit j=true->b.getD j true=true)->
  G.K=K->Fr A D G ρ σ a w->qp A R is (rem ops.size b) σ=some σ'->(∀G' ρ' a' w',Fr A D G' ρ' σ' a' w'->Ext D G w G' w'->Q .normal a' w')->
  wpAny P .any ops Q fuel b a w:=by
 obtain⟨aj,I⟩:=zdT W;intro fuel
 induction fuel with
 |zero=>
  intro b σ σ' G ρ a w hs hl hc hK hF c hQ;have d:=List.eq_nil_of_length_eq_zero hl;refine⟨?_,?_⟩
  ·rw[List.eq_nil_iff_forall_not_mem];intro i C;simp only[Region.ready,List.mem_filter,List.mem_range,xab,Bool.not_eq_true']at C;have:i∈rem ops.size b:=by unfold rem;rw[List.mem_filter,List.mem_range,C.2.1];exact⟨C.1,rfl⟩
   rw[d]at this;cases this
  ·rw[d]at c;simp only[qp]at c;cases c;exact hQ G ρ a w hF (Ext.refl D G w)
 |succ fuel ih=>
  intro b σ σ' G ρ a w hs hl hc hK hF c hQ;refine⟨?_,?_⟩
  ·
   intro hr;exfalso;cases d:rem ops.size b with
   |nil=>rw[d]at hl;simp at hl
   |cons i0 l=>
    have h:i0∈rem ops.size b:=by rw[d];simp
    simp only[rem,List.mem_filter,List.mem_range,Bool.not_eq_true']at h;obtain⟨pre,J,E,X,h3⟩:=zd1 hs h.1 h.2;have L:∀j,j<i0->b.getD j true=true:=by
     intro j v;by_cases r:b.getD j true=true
     ·exact r
     ·exfalso;have r:b.getD j true=false:=by simpa using r
      obtain⟨p2,q2,Y,_,k3⟩:=zd1 hs (show j<ops.size by omega) r;rw[d]at Y;cases p2 with
      |nil=>simp at Y;omega
      |cons x p2=>simp at Y;have:=(k3 x (by simp)).1;omega
    have M:i0<ops.size:=h.1;have:i0∈Region.ready .any ops b:=by
     simp only[Region.ready,List.mem_filter,List.mem_range,xab,Bool.not_eq_true'];refine⟨M,h.2,?_⟩;have u:ops[i0]?=some ops[i0]:=by simp[M]
     rw[u];simp only[xam,Option.getD_some,Array.all_eq_true_iff_forall_mem];intro e z;by_cases n:Region.binds .any e=true
     ·have B:=F.on i0 _ u e z n;have:=L e.on B;rw[ziW (by omega:e.on<b.size) (d':=false)]at this;rw[this];simp
     ·simp[n]
    rw[hr]at this;cases this
  ·intro i C;simp only[Region.ready,List.mem_filter,List.mem_range,xab,Bool.not_eq_true']at C;obtain⟨o,Z,m⟩:=C;have u:ops[i]?=some ops[i]:=by simp[o]
   rw[u]at m;simp only[xam,Option.getD_some,Array.all_eq_true_iff_forall_mem]at m;have s:∀e∈(ops[i]).after,Region.binds .any e=true->b.getD e.on true=true:=by
    intro e z n;have E:=m e z;rw[n]at E;have B:=F.on i _ u e z n;rw[ziW (by omega:e.on<b.size) (d':=false)];simpa using E
   obtain⟨x,hx,N⟩:=I i ops[i] (by simp[o]);obtain⟨pre,J,E,X,h3⟩:=zd1 hs o Z;have p:∀j,j<i->(bs.getD i 0).testBit j=true->b.getD j true=true:=by
    intro j v n;rcases F.pair i o j v with⟨_,c⟩|⟨hn,_⟩
    ·simp only[zcE,u,Array.any_eq_true']at c;obtain⟨e,z,c⟩:=c;simp only[xab,Bool.or_eq_true,beq_iff_eq,decide_eq_true_eq]at c;have O:=s e z c.1;have B:=F.on i _ u e z c.1;rcases c.2 with rfl|⟨aa,ab⟩
     ·exact O
     ·exact hc e.on (by omega) O j aa ab
    ·rw[n]at hn;cases hn
   rw[E]at c;obtain⟨σ1,ac,ad⟩:=zuP hx pre σ σ' (by
    intro j v;obtain⟨q,ae⟩:=h3 j v;rcases F.pair i o j q with⟨n,_⟩|⟨_,f,g,hf,hg,af⟩
    ·have:=p j q n;rw[ae]at this;cases this
    ·rw[xat,hx]at hg;simp only[xat,xaf]at hf;obtain⟨y,hy,rfl⟩:=hf;simp only[xam,Option.some.injEq]at hg;subst hg;exact⟨y,hy,af⟩) c
   unfold wpOp;rw[u];refine(zng hF hA hR hK N ac).2 _ Q fun G1 ρ1 a1 w1 ag T=>?_;refine ih (b.setIfInBounds i true) σ1 σ' G1 ρ1 a1 w1 (by simp[hs]) ?_ ?_ (by rw[T.K,hK]) ag (by rw[X];exact ad) fun G' ρ' a' w' ah ai=>hQ G' ρ' a' w' ah (T.trans ai)
   ·rw[X];rw[E]at hl;simp at hl ⊢;omega
   ·intro k hk U j v n;by_cases q:j=i
    ·subst q;exact zlK (by omega)
    ·rw[zdw q];by_cases V:k=i
     ·subst V;exact p j v n
     ·rw[zdw V]at U;exact hc k hk U j v n
structure znG(A:Nat->jD)(ops:Array Oper)(l:List zu)(fs:List vj)(bs:List Nat)(c:List (Nat×Nat)):Prop where
 on:∀(i:Nat) (o:Oper),ops[i]?=some o->∀e∈o.after,Region.binds .any e=true->e.on<i
 pair:∀i,i<ops.size->∀j,j<i->((bs.getD i 0).testBit j=true/\zcE ops bs i j=true)\/((bs.getD i 0).testBit j=false/\∃f g,fs[j]?=some f/\fs[i]?=some g/\wt f g=true)\/((bs.getD i 0).testBit j=false/\(zmg ops l bs c j i||zmf A l fs c j i)=true)
theorem zz5{ops:Array Oper}{l:List zu}{fs:List vj}{c:List (Nat×Nat)}{M:Nat->jD}(h:zme P M ops l fs c=true):(P.follows .mixedOrders||!Region.departs ops)=true/\znG M ops l fs (zgp ops.toList) c:=by
 simp only[zme,xab]at h;obtain⟨⟨k,d⟩,m⟩:=h;refine⟨k,?_,?_⟩
 ·intro i o n e p b;rw[List.all_eq_true]at d;have q:(o,i)∈ops.toList.zipIdx:=by
   rw[List.mk_mem_zipIdx_iff_getElem?];simpa using n
  have:=d _ q;simp only[Array.all_eq_true_iff_forall_mem]at this;have:=this e p;rw[b]at this;simpa using this
 ·intro i r j s;simp only[zsQ,List.all_eq_true,List.mem_range]at m;have:=m i r j s;split at this
  ·rename_i b;exact .inl ⟨b,this⟩
  ·rename_i b;right;rw[Bool.or_eq_true]at this;rcases this with this|this
   ·left;refine⟨by simpa using b,?_⟩;split at this
    ·rename_i f g k d;exact⟨f,g,k,d,this⟩
    ·cases this
   ·exact .inr ⟨by simpa using b,this⟩
theorem zz7(hA:Ok P A K)(hR:jJ P A K R){ops:Array Oper}{is:List zu}{bs:List Nat}{c:List (Nat×Nat)}{Q:Exit->Act->World->Prop}(hd:znG A.mode ops is (is.map (yh A.mode (ye A))) bs c)(ak:wg P K ops ops.toList is=true):
 ∀(fuel:Nat) (d:Array Bool) (σ σ':ASt) (G:Gh) (ρ:Nat->Option Nat) (a:Act) (w:World),d.size=ops.size->(rem ops.size d).length=fuel->
  (∀k,k<ops.size->d.getD k true=true->∀j,j<k->(bs.getD k 0).testBit j=true->d.getD j true=true)->
  G.K=K->Fr A D G ρ σ a w->qp A R is (rem ops.size d) σ=some σ'->zat σ'.tm c=true->(∀G' ρ' a' w',Fr A D G' ρ' σ' a' w'->Ext D G w G' w'->Q .normal a' w')->
  wpAny P .any ops Q fuel d a w:=by
 obtain⟨ba,ab⟩:=zdT ak;intro fuel
 induction fuel with
 |zero=>
  intro d σ σ' G ρ a w hs hl hc hK hF m hck hQ;have o:=List.eq_nil_of_length_eq_zero hl;refine⟨?_,?_⟩
  ·rw[List.eq_nil_iff_forall_not_mem];intro i hi;simp only[Region.ready,List.mem_filter,List.mem_range,xab,Bool.not_eq_true']at hi;have:i∈rem ops.size d:=by unfold rem;rw[List.mem_filter,List.mem_range,hi.2.1];exact⟨hi.1,rfl⟩
   rw[o]at this;cases this
  ·rw[o]at m;simp only[qp]at m;cases m;exact hQ G ρ a w hF (Ext.refl D G w)
 |succ fuel ih=>
  intro d σ σ' G ρ a w hs hl hc hK hF m hck hQ;refine⟨?_,?_⟩
  ·
   intro hr;exfalso;cases o:rem ops.size d with
   |nil=>rw[o]at hl;simp at hl
   |cons i0 l=>
    have p:i0∈rem ops.size d:=by rw[o];simp
    simp only[rem,List.mem_filter,List.mem_range,Bool.not_eq_true']at p;obtain⟨pre,N,O,h2,h3⟩:=zd1 hs p.1 p.2;have ac:∀j,j<i0->d.getD j true=true:=by
     intro j U;by_cases I:d.getD j true=true
     ·exact I
     ·exfalso;have I:d.getD j true=false:=by simpa using I
      obtain⟨J,q2,k1,_,k3⟩:=zd1 hs (show j<ops.size by omega) I;rw[o]at k1;cases J with
      |nil=>simp at k1;omega
      |cons x J=>simp at k1;have:=(k3 x (by simp)).1;omega
    have ad:i0<ops.size:=p.1;have:i0∈Region.ready .any ops d:=by
     simp only[Region.ready,List.mem_filter,List.mem_range,xab,Bool.not_eq_true'];refine⟨ad,p.2,?_⟩;have T:ops[i0]?=some ops[i0]:=by simp[ad]
     rw[T];simp only[xam,Option.getD_some,Array.all_eq_true_iff_forall_mem];intro e V;by_cases q:Region.binds .any e=true
     ·have v:=hd.on i0 _ T e V q;have:=ac e.on v;rw[ziW (by omega:e.on<d.size) (d':=false)]at this;rw[this];simp
     ·simp[q]
    rw[hr]at this;cases this
  ·intro i hi;simp only[Region.ready,List.mem_filter,List.mem_range,xab,Bool.not_eq_true']at hi;obtain⟨B,al,r⟩:=hi;have T:ops[i]?=some ops[i]:=by simp[B]
   rw[T]at r;simp only[xam,Option.getD_some,Array.all_eq_true_iff_forall_mem]at r;have L:∀e∈(ops[i]).after,Region.binds .any e=true->d.getD e.on true=true:=by
    intro e V q;have O:=r e V;rw[q]at O;have v:=hd.on i _ T e V q;rw[ziW (by omega:e.on<d.size) (d':=false)];simpa using O
   obtain⟨x,hx,ae⟩:=ab i ops[i] (by simp[B]);obtain⟨pre,N,O,h2,h3⟩:=zd1 hs B al;have s:∀j,j<i->(bs.getD i 0).testBit j=true->d.getD j true=true:=by
    intro j U q;rcases hd.pair i B j U with⟨_,m⟩|⟨hn,_⟩|⟨hn,_⟩
    ·simp only[zcE,T,Array.any_eq_true']at m;obtain⟨e,V,m⟩:=m;simp only[xab,Bool.or_eq_true,beq_iff_eq,decide_eq_true_eq]at m;have af:=L e V m.1;have v:=hd.on i _ T e V m.1;rcases m.2 with rfl|⟨am,an⟩
     ·exact af
     ·exact hc e.on (by omega) af j am an
    ·rw[q]at hn;cases hn
    ·rw[q]at hn;cases hn
   rw[O]at m;have C:∀p1 j J,pre=p1++j::J->∀k∈J++N,j<k/\k≠i/\d.getD k true=false/\k<ops.size:=by
    intro p1 j J e k n;have hp:(rem ops.size d).Pairwise (· < ·):=by
     unfold rem;exact List.Pairwise.filter _ (List.pairwise_lt_range)
    have E:k∈rem ops.size d:=by
     rw[O,e];rcases xaE.1 n with n|n
     ·simp[n]
     ·simp[n]
    simp only[rem,List.mem_filter,List.mem_range,Bool.not_eq_true']at E;rw[O,e]at hp;simp only[List.append_assoc,List.cons_append,List.pairwise_append,List.pairwise_cons]at hp;obtain⟨_,⟨U,ag⟩,_⟩:=hp;refine⟨U k (by rcases xaE.1 n with n|n<;>simp[n]),?_,E.2,E.1⟩;rintro rfl;rcases xaE.1 n with n|n
    ·exact Nat.lt_irrefl _ (ag.2.2 k n k (by simp))
    ·exact Nat.lt_irrefl _ (ag.2.1.1 k n)
   obtain⟨σ1,W,X⟩:=zuQ hA hx pre σ (fun _ _ _ _ id ao=>(hF.sim.fresh id ao).1) (by
    intro p1 j J e;obtain⟨u,ap⟩:=h3 j (by rw[e];simp);rcases hd.pair i B j u with⟨q,_⟩|⟨_,f,g,hf,hg,aq⟩|⟨_,m⟩
    ·have:=s j u q;rw[ap]at this;cases this
    ·rw[xat,hx]at hg;simp only[xat,xaf]at hf;obtain⟨y,M,rfl⟩:=hf;simp only[xam,Option.some.injEq]at hg;subst hg;exact⟨y,M,.inl aq⟩
    ·rw[Bool.or_eq_true]at m;rcases m with m|m;rotate_left
     ·unfold zmf at m;rw[hx]at m;cases M:is[j]? with
      |none=>rw[M]at m;cases m
      |some y=>
       rw[M]at m;simp only[xat,hx,M,xam]at m;refine⟨y,rfl,.inr (.inr ?_)⟩;split at m
       ·rename_i sz agg a key e1 e2 e3;split at m
        ·rename_i cols hm;simp only[xab,List.all_eq_true,List.mem_range,Bool.or_eq_true,decide_eq_true_eq]at m;obtain⟨⟨⟨W,X⟩,ar⟩,au⟩:=m;have F:∀k z,j<=k->is[k]?=some z->z.dst≠some a:=by
          intro k z n Y;rcases au k (xal.1 Y).1 with h|h
          ·omega
          ·rw[Y]at h;simpa using h
         refine⟨sz,agg,a,key,cols,e1,e2,e3,hm,fun t ht=>?_,fun t ht=>?_,?_,F j y (xad _) M,F i x (Nat.le_of_lt u) hx,fun k n z Y=>F k z (Nat.le_of_lt (C p1 j J e k n).1) Y⟩
         ·have:=W t ht;simpa using this
         ·have:=X t ht;simpa using this
         ·rcases ar with h|⟨h,n⟩
          ·left;simpa using h
          ·right;refine⟨by simpa using h,fun k E=>?_⟩;have Z:=n k E;unfold zat at hck;rw[List.all_eq_true]at hck;have:=hck (a,1000+k) (by simpa using Z);unfold zew at this;rw[if_neg (by show ¬1000+k<1000;omega)]at this;simpa using this
        ·cases m
       ·cases m
     unfold zmg at m;rw[hx]at m;cases M:is[j]? with
     |none=>rw[M]at m;cases m
     |some y=>
      rw[M]at m;refine⟨y,rfl,.inr (.inl ?_)⟩;split at m
      ·rename_i a b ha q;simp only[xae]at ha q;simp only[xab,List.all_eq_true,List.mem_range,Bool.or_eq_true,decide_eq_true_eq]at m;obtain⟨⟨Z,v⟩,av⟩:=m;refine⟨a,b,ha,q,?_,?_⟩
       ·unfold zat at hck;rw[List.all_eq_true]at hck;have:=hck (a,b) (by simpa using Z);unfold zew at this;rw[if_pos v]at this;exact this
       ·intro k n z Y;obtain⟨bc,aa,aw,be⟩:=C p1 j J e k n;have ah:k<is.length:=(xal.1 Y).1;rcases av k ah with h|h
        ·omega
        ·rw[Y]at h;simp only[xab,bne_iff_ne,Bool.or_eq_true,decide_eq_true_eq]at h;refine⟨h.1,?_⟩;rcases h.2 with h|⟨⟨h4,h5⟩,_⟩
         ·exact h
         ·have:=s k h4 h5;rw[aw]at this;cases this
      ·cases m) m
   unfold wpOp;rw[T];refine(zng hF hA hR hK ae W).2 _ Q fun G1 ρ1 a1 w1 ax ai=>?_;refine ih (d.setIfInBounds i true) σ1 σ' G1 ρ1 a1 w1 (by simp[hs]) ?_ ?_ (by rw[ai.K,hK]) ax (by rw[h2];exact X) hck fun G' ρ' a' w' ay az=>hQ G' ρ' a' w' ay (ai.trans az)
   ·rw[h2];rw[O]at hl;simp at hl ⊢;omega
   ·intro k n aj j U q;by_cases u:j=i
    ·subst u;exact zlK (by omega)
    ·rw[zdw u];by_cases aa:k=i
     ·subst aa;exact s j U q
     ·rw[zdw aa]at aj;exact hc k n aj j U q
end
section
variable{A:zA}{D:Nat->Prop}{G:Gh}{ρ:Nat->Option Nat}{σ:ASt}{a:Act}{w:World}{P:Program}{K:Nat->Option Nat}
def wr(P:Program)(c:Code)(Q:Exit->Act->World->Prop)(a:Act)(w:World):Prop:=
 ∀(b:Frame) (k:List Item) (cs:List Frame),∃e a' w',Q e a' w'/\Arrives P (lone (b.at a (.code c::.inLoop c::k)) cs w) b k cs e a' w'
theorem zvc{c:Code}{Q:Exit->Act->World->Prop}(h:wr P c Q a w):(Code.loop c).wp P Q a w:=by
 intro b k cs;obtain⟨e,a',w',g,d⟩:=h b k cs;exact⟨e,a',w',g,.of_steps (.one step_loop) d⟩
theorem zsm{c:Code}{Q:Exit->Act->World->Prop}(h:c.wp P (Exit.then (wr P c Q) Q) a w):wr P c Q a w:=by
 intro b k cs;obtain⟨e,j,m,i,d⟩:=h b (.inLoop c::k) cs;cases e with
 |normal=>
  obtain⟨o,p,q,n,g⟩:=i b k cs;exact⟨o,p,q,n,.of_steps (Steps.trans d (.one step_inLoop)) g⟩
 |exit id=>exact⟨_,j,m,i,.pass (x:=.inLoop c) rfl (fun _ _=>.inl (by simp)) d⟩
 |goto l=>exact⟨_,j,m,i,.pass (x:=.inLoop c) rfl (fun _ _=>.inl (by simp)) d⟩
 |ret=>exact⟨_,j,m,i,.pass (x:=.inLoop c) rfl (fun _ _=>.inl (by simp)) d⟩
 |panic ch=>exact⟨_,j,m,i,.pass (x:=.inLoop c) rfl (fun _ _=>.inl (by simp)) d⟩
 |outgrown=>exact⟨_,j,m,i,.pass (x:=.inLoop c) rfl (fun _ _=>.inl (by simp)) d⟩
theorem zAF{tm rg:List Nat}{σ':ASt}(h:wF tm rg σ=some σ')(d:Fr A D G ρ σ a w):Fr A D G ρ σ' a w/\σ'.S=σ.S:=by
 unfold wF at h;dsimp only at h;split at h
 ·cases h
 ·rename_i j;cases h;simp only[Bool.not_eq_true,List.any_eq_false]at j;have g:∀{r cs},(if rg.contains r then none else σ.rg r)=some cs->σ.rg r=some cs:=by
   intro r cs e;split at e
   ·cases e
   ·exact e
  refine⟨⟨d.defers,by simp[d.size],?_,?_,?_,?_,d.sim,d.dwr,d.dnew,d.glob⟩,rfl⟩
  ·intro p v e;rw[xat,List.getElem?_zipIdx]at e;cases hp:σ.tm[p]? with
   |none=>rw[hp]at e;simp at e
   |some u=>
    rw[hp]at e;simp only[xam,Nat.zero_add,Option.some.injEq]at e;have k:=d.tmp p u hp;by_cases i:tm.contains p=true
    ·rw[if_pos i]at e;subst e;exact Rep.trep .junk
    ·rw[if_neg i]at e;subst e;cases u with
     |reg r c=>
      obtain⟨l,m⟩:=k;refine⟨?_,m⟩;have n:AV.reg r c∈(σ.tm.zipIdx.map fun p=>if tm.contains p.2 then AV.junk else p.1):=by
       rw[List.mem_map];exact⟨(.reg r c,p),by rw[List.mk_mem_zipIdx_iff_getElem?];exact hp,if_neg i⟩
      have:=j _ n;simp only[Bool.not_eq_true]at this;dsimp only;rw[if_neg (by rw[this];simp)];exact l
     |_=>exact k
  ·intro r cs e;exact d.reg r cs (g e)
  ·intro r q cs cs' b e s;exact d.rinj r q cs cs' b (g e) (g s)
  ·intro r cs b id o x e;exact d.rhp r cs b id o x (g e)
theorem zbR.ext{e:zL}{σ':ASt}{G1:Gh}{b:World}(c:Ext D G w G1 b){x:Exit}{a':Act}{w':World}(h:zbR A D G1 b e σ' x a' w'):zbR A D G w e σ' x a' w':=by
 obtain⟨d,G',ρ',g,i⟩:=h;exact⟨d,G',ρ',g,c.trans i⟩
def zf9(P:Program)(A:zA)(K:Nat->Option Nat)(R:ACode->ASt->Option (zL×ASt)):Prop:=
 ∀(code:Code) (tm rg:List Nat) (c:ACode) (σ:ASt) (e:zL) (σ':ASt) (D:Nat->Prop) (G:Gh) (ρ:Nat->Option Nat) (a:Act) (w:World),G.K=K->zZ P K A.mode (ye A) code c=true->R (.loop tm rg c) σ=some (e,σ')->Fr A D G ρ σ a w->
  wr P code (zbR A D G w e σ') a w
theorem zyM(B:Ok P A K){n:Nat}(p:jJ P A K (zy A n))(s:zf9 P A K (zy A n)):zf9 P A K (zy A (n+1)):=by
 intro code tm rg c σ e σ' D G ρ a w hK hok h hF;simp only[zy,xaa]at h;obtain⟨σ0,u,h⟩:=h;obtain⟨d,v⟩:=zAF u hF;refine zsm ?_;split at h
 ·rename_i σ1 hr;refine wp_mono (p code c σ0 _ σ1 D G ρ a w hK hok hr d).1 ?_;rintro x q r ⟨rfl,G1,ρ1,l,g⟩;have:=s code tm rg c σ1 e σ' D G1 ρ1 q r (by rw[g.K,hK]) hok h l;intro b k cs;obtain⟨y,a',w',z,j⟩:=this b k cs;exact⟨y,a',w',z.ext g,j⟩
 ·rename_i m;refine wp_mono (p code c σ0 e σ' D G ρ a w hK hok h d).1 ?_;rintro x q r ⟨rfl,o⟩;cases e with
  |normal=>exact absurd h (m σ')
  |ret=>exact⟨rfl,o⟩
  |exit i=>exact⟨rfl,o⟩
  |goto i=>exact⟨rfl,o⟩
theorem zmt{n:Nat}:List.range n=List.range' 0 n:=List.range_eq_range'
theorem zsA:∀{c:Code},zdL c=true->∀l,findLabel c l=none:=by
 intro c
 induction c with
 |seq x y ih1 ih2=>
  intro h l;simp only[zdL,xab]at h;simp only[findLabel,ih1 h.1,ih2 h.2]
 |label i=>intro h;simp[zdL]at h
 |_=>intro _ l;rfl
theorem znS:∀{c:Code} {b:ACode} {l:Nat},zZ P K A.mode (ye A) c b=true->vn b l=none->findLabel c l=none:=by
 intro c
 induction c with
 |seq x y ih1 ih2=>
  intro b l h d;cases b with
  |seq x' y'=>
   simp only[zZ,xab]at h;simp only[vn]at d;split at d
   ·cases d
   ·rename_i e;simp only[findLabel,ih1 h.1 e,ih2 h.2 d]
  |ops l=>
   refine zsA ?_ _;unfold zZ at h;split at h<;>first|assumption|simp_all
  |_=>simp[zZ]at h
 |label i=>
  intro b l h d;cases b with
  |label i'=>
   simp only[zZ,beq_iff_eq]at h;subst h;simp only[vn]at d;split at d
   ·cases d
   ·rename_i g;simp only[findLabel,g];rfl
  |ops l=>
   refine zsA ?_ _;unfold zZ at h;split at h<;>first|assumption|simp_all
  |_=>simp[zZ]at h
 |_=>intro _ _ _ _;rfl
theorem zyq{b:ACode}:∀{c:Code} {l:Nat} {b':ACode},zZ P K A.mode (ye A) c b=true->vn b l=some b'->∃c',findLabel c l=some c'/\zZ P K A.mode (ye A) c' b'=true:=by
 induction b with
 |seq x y ih1 ih2=>
  intro c l b' h d;cases c with
  |seq x' y'=>
   simp only[zZ,xab]at h;simp only[vn]at d;split at d
   ·rename_i rest e;cases d;obtain⟨c',g,j⟩:=ih1 h.1 e;exact⟨.seq c' y',by simp only[findLabel,g],by simp only[zZ,j,h.2,Bool.and_self]⟩
   ·rename_i e;obtain⟨c',g,j⟩:=ih2 h.2 d;refine⟨c',?_,j⟩;have:findLabel x' l=none:=znS h.1 e;simp only[findLabel,this,g]
  |_=>simp[zZ]at h
 |label i=>
  intro c l b' h d;cases c with
  |label i'=>
   simp only[zZ,beq_iff_eq]at h;subst h;simp only[vn]at d;split at d
   ·rename_i k;cases d;exact⟨.skip,by simp only[findLabel,k,if_true],rfl⟩
   ·cases d
  |_=>simp[zZ]at h
 |_=>intro c l b' h d;simp[vn]at d
def znL(P:Program)(b c:Code)(Q:Exit->Act->World->Prop)(a:Act)(w:World):Prop:=
 ∀(fr:Frame) (k:List Item) (cs:List Frame),∃e a' w',Q e a' w'/\Arrives P (lone (fr.at a (.code c::.inScope b::k)) cs w) fr k cs e a' w'
def zgb(P:Program)(A:zA)(K:Nat->Option Nat)(R:ACode->ASt->Option (zL×ASt)):Prop:=
 ∀(body code:Code) (b c:ACode) (σ:ASt) (e:zL) (σ':ASt) (D:Nat->Prop) (G:Gh) (ρ:Nat->Option Nat) (a:Act) (w:World),G.K=K->zZ P K A.mode (ye A) body b=true->zZ P K A.mode (ye A) code c=true->
  R (.scope b c) σ=some (e,σ')->Fr A D G ρ σ a w->znL P body code (zbR A D G w e σ') a w
theorem zyO(M:Ok P A K){n:Nat}(B:jJ P A K (zy A n))(C:zgb P A K (zy A n)):zgb P A K (zy A (n+1)):=by
 intro body code b c σ e σ' D G ρ a w hK hb hc h hF;simp only[zy]at h;intro fr k cs;split at h
 ·rename_i l σ1 hr;obtain⟨E,p,q,⟨rfl,G1,ρ1,r,j⟩,d⟩:=(B code c σ _ σ1 D G ρ a w hK hc hr hF).1 fr (.inScope body::k) cs;split at h
  ·rename_i c' g;obtain⟨rest,m,s⟩:=zyq hb g;obtain⟨F,I,J,u,o⟩:=C body rest b c' σ1 e σ' D G1 ρ1 p q (by rw[j.K,hK]) hb s h r fr k cs;refine⟨F,I,J,u.ext j,.of_steps ?_ o⟩;exact d _ (by simp only[gotoIn,m])
  ·rename_i g;cases h;have L:=znS hb g;exact⟨_,p,q,⟨rfl,G1,ρ1,r,j⟩,fun v x=>d v (by simp only[gotoIn,L];exact x)⟩
 ·rename_i y;obtain⟨E,p,q,⟨rfl,z⟩,d⟩:=(B code c σ e σ' D G ρ a w hK hc h hF).1 fr (.inScope body::k) cs;cases e with
  |normal=>exact⟨_,p,q,⟨rfl,z⟩,Steps.trans d (.one step_inScope)⟩
  |ret=>exact⟨_,p,q,⟨rfl,z⟩,d⟩
  |exit i=>exact⟨_,p,q,⟨rfl,z⟩,fun v x=>d v (by simp only[exitTo];exact x)⟩
  |goto l=>exact absurd h (y l σ')
theorem zKu{c:Code}{Q:Exit->Act->World->Prop}(h:znL P c c Q a w):(Code.scope c).wp P Q a w:=by
 intro b k cs;obtain⟨e,a',w',g,d⟩:=h b k cs;exact⟨e,a',w',g,.of_steps (.one step_scope) d⟩
theorem zyN(M:Ok P A K){n:Nat}(r:jJ P A K (zy A n))(h2:zf9 P A K (zy A (n+1)))(h3:zgb P A K (zy A (n+1))):jJ P A K (zy A (n+1)):=by
 intro code c σ e σ' D G ρ a w hK d h hF;refine⟨?_,zn0 M _ _ _ _ _ h hF.sim.ro⟩;unfold zZ at d;split at d
 ·simp only[zy]at h;cases h;exact wp_skip ⟨rfl,G,ρ,hF,Ext.refl D G w⟩
 ·rename_i id ops draw l;simp only[xab]at d;obtain⟨o,u⟩:=d;simp only[zy,xaf]at h;obtain⟨σ1,v,h⟩:=h;cases h;obtain⟨g,z⟩:=zdT o;simp only[Array.length_toList]at g;cases draw with
  |false=>
   refine wp_region ?_;rw[zmt];refine zJ8 M r ops.size 0 l σ σ' G ρ a w hK hF ?_ g.symm v ?_
   ·intro j hj;obtain⟨i,F,I⟩:=z j ops[j] (by simp[hj]);exact⟨ops[j],i,by simp[hj],F,I⟩
   ·intro G' ρ' a' w' hF' hx';exact⟨rfl,G',ρ',hF',hx'⟩
  |true=>
   simp only[Bool.not_true,Bool.false_or]at u;obtain⟨p,T⟩:=zz4 u;refine wp_region_draw fun t=>?_;simp only[Region.schedule,p,if_true];obtain⟨B,C⟩:=hF.same (w':={w with drawn:=w.drawn+1}) rfl;refine wpAny_sound ops.size t _ a _ ?_;have m:rem ops.size (Array.replicate ops.size false)=List.range ops.size:=by
    unfold rem;rw[List.filter_eq_self];intro i F;have:i<ops.size:=by simpa using F
    rw[Array.getD_eq_getD_getElem?,Array.getElem?_replicate,if_pos this];rfl
   refine zz6 M r T o ops.size _ σ σ' G ρ a _ (by simp) (by rw[m];simp) ?_ hK B ?_ ?_
   ·intro k U J;rw[Array.getD_eq_getD_getElem?,Array.getElem?_replicate,if_pos U]at J;cases J
   ·rw[m,zmt,g,znh l 0 σ fun j _=>by rw[Nat.zero_add]];exact v
   ·intro G' ρ' a' w' hF' hx';exact⟨rfl,G',ρ',hF',C.trans hx'⟩
 ·rename_i id ops draw l c;simp only[xab]at d;obtain⟨⟨o,V⟩,u⟩:=d;simp only[zy,xaa]at h;obtain⟨σ1,v,h⟩:=h;split at h
  ·rename_i W;cases h;obtain⟨g,z⟩:=zdT o;simp only[Array.length_toList]at g;subst V;obtain⟨p,T⟩:=zz5 u;refine wp_region_draw fun t=>?_;simp only[Region.schedule,p,if_true];obtain⟨B,C⟩:=hF.same (w':={w with drawn:=w.drawn+1}) rfl;refine wpAny_sound ops.size t _ a _ ?_;have m:rem ops.size (Array.replicate ops.size false)=List.range ops.size:=by
    unfold rem;rw[List.filter_eq_self];intro i F;have:i<ops.size:=by simpa using F
    rw[Array.getD_eq_getD_getElem?,Array.getElem?_replicate,if_pos this];rfl
   refine zz7 M r T o ops.size _ σ σ' G ρ a _ (by simp) (by rw[m];simp) ?_ hK B ?_ W ?_
   ·intro k U J;rw[Array.getD_eq_getD_getElem?,Array.getElem?_replicate,if_pos U]at J;cases J
   ·rw[m,zmt,g,znh l 0 σ fun j _=>by rw[Nat.zero_add]];exact v
   ·intro G' ρ' a' w' hF' hx';exact⟨rfl,G',ρ',hF',C.trans hx'⟩
  ·cases h
 ·rename_i x y N X;simp only[xab]at d;simp only[zy]at h;refine wp_seq ?_;split at h
  ·rename_i σ1 hr;refine wp_mono (r x N σ _ σ1 D G ρ a w hK d.1 hr hF).1 ?_;rintro Y O Q ⟨rfl,G1,ρ1,Z,L⟩;exact wp_mono (r y X σ1 e σ' D G1 ρ1 O Q (by rw[L.K,hK]) d.2 h Z).1 fun _ _ _ hq=>hq.ext L
  ·rename_i E;refine wp_mono (r x N σ e σ' D G ρ a w hK d.1 h hF).1 ?_;rintro Y O Q ⟨rfl,s⟩;cases e with
   |normal=>exact absurd h (E σ')
   |ret=>exact⟨rfl,s⟩
   |exit i=>exact⟨rfl,s⟩
   |goto i=>exact⟨rfl,s⟩
 ·rename_i c x y c' N X;simp only[xab]at d;simp only[zy]at h;split at h
  ·rename_i t hc;have hT:=zbU hF (by rw[hK];exact d.1.1) hc;have hT:Rep G w (.sc (.bool t)) (a.eval c):=hT;have hv:a.eval c=.bool t:=by
    generalize a.eval c=q at hT;cases hT;rfl
   refine wp_cond hv ?_;cases t with
   |true=>exact(r x N σ e σ' D G ρ a w hK d.1.2 h hF).1
   |false=>exact(r y X σ e σ' D G ρ a w hK d.2 h hF).1
  ·cases h
 ·rename_i i c i' c';simp only[xab,beq_iff_eq]at d;obtain⟨rfl,d⟩:=d;simp only[zy]at h;refine wp_block ?_;split at h
  ·rename_i j σ1 hr;cases h;refine wp_mono (r c c' σ _ _ D G ρ a w hK d hr hF).1 ?_;rintro Y O Q ⟨rfl,s⟩;simp only[zL.ex,Exit.inBlock];split
   ·exact⟨rfl,s⟩
   ·exact⟨rfl,s⟩
  ·rename_i E;refine wp_mono (r c c' σ e σ' D G ρ a w hK d h hF).1 ?_;rintro Y O Q ⟨rfl,s⟩;cases e with
   |normal=>exact⟨rfl,s⟩
   |ret=>exact⟨rfl,s⟩
   |exit i=>exact absurd h (E i σ')
   |goto i=>exact⟨rfl,s⟩
 ·rename_i c tm rg c';exact zvc (h2 c tm rg c' σ e σ' D G ρ a w hK d h hF)
 ·rename_i i i';simp only[beq_iff_eq]at d;subst d;simp only[zy]at h;cases h;exact wp_exit ⟨rfl,G,ρ,hF,Ext.refl D G w⟩
 ·rename_i i i';simp only[beq_iff_eq]at d;subst d;simp only[zy]at h;cases h;exact wp_label ⟨rfl,G,ρ,hF,Ext.refl D G w⟩
 ·rename_i i i';simp only[beq_iff_eq]at d;subst d;simp only[zy]at h;cases h;exact wp_goto ⟨rfl,G,ρ,hF,Ext.refl D G w⟩
 ·rename_i c b c';rw[xab]at d;exact zKu (h3 c c b c' σ e σ' D G ρ a w hK d.1 d.2 h hF)
 ·simp only[zy]at h;cases h;exact wp_ret ⟨rfl,G,ρ,hF,Ext.refl D G w⟩
 ·simp[zy,yK,step,qB,evs,y5,ze]at h
 ·cases d
theorem zn2(b:Ok P A K):∀n,jJ P A K (zy A n)/\zf9 P A K (zy A n)/\zgb P A K (zy A n)
 |0=>⟨fun _ _ _ _ _ _ _ _ _ _ _ _ h=>by simp[zy]at h,fun _ _ _ _ _ _ _ _ _ _ _ _ _ _ h=>by simp[zy]at h,fun _ _ _ _ _ _ _ _ _ _ _ _ _ _ _ h=>by simp[zy]at h⟩
 |n+1=>by
  obtain⟨c,g,i⟩:=zn2 b n;have d:=zyM b c g;have e:=zyO b c i;exact⟨zyN b c d e,d,e⟩
end
def LeR(R b:ACode->ASt->Option (zL×ASt)):Prop:=∀c σ r,R c σ=some r->b c σ=some r
section
variable{A:zA}
theorem zc6{R b:ACode->ASt->Option (zL×ASt)}(h:LeR R b){f:za}{args:List AV}{S:AS}{r:AV×AS}(e:enter R f args S=some r):enter b f args S=some r:=by
 unfold enter at e ⊢;split at e
 ·rename_i σ h1;rw[h _ _ _ h1];exact e
 ·rename_i σ h1;rw[h _ _ _ h1];exact e
 ·cases e
theorem zoG{R k:ACode->ASt->Option (zL×ASt)}(h:LeR R k){key:Nat}{args:List AV}{S:AS}{r:AV×AS}(e:yq A R key args S=some r):yq A k key args S=some r:=by
 unfold yq at e ⊢;split at e
 ·cases e
 ·rename_i l;rw[if_neg l];split at e
  ·exact e
  ·simp only[xaa]at e ⊢;obtain⟨af,g,e⟩:=e;refine⟨af,g,?_⟩;split at e
   ·exact zc6 h e
   ·split at e
    ·rename_i i;rw[if_pos i];simp only[xaa]at e ⊢;obtain⟨a',j,b,c,d⟩:=e;exact⟨a',j,b,zc6 h c,d⟩
    ·cases e
   ·simp only[xaa]at e ⊢;obtain⟨b,c,d⟩:=e;exact⟨b,zc6 h c,d⟩
   ·simp only[xaa]at e ⊢;obtain⟨a',j,b,c,d⟩:=e;exact⟨a',j,b,zc6 h c,d⟩
   ·simp only[xaa]at e ⊢;obtain⟨b,c,d⟩:=e;exact⟨b,zc6 h c,d⟩
   ·split at e
    ·rename_i i;rw[if_pos i];simp only[xaa]at e ⊢;obtain⟨b,c,d⟩:=e;exact⟨b,zc6 h c,d⟩
    ·cases e
theorem zz2{R d:ACode->ASt->Option (zL×ASt)}(h:LeR R d){op:AOp}{dst:Option Nat}{vs:List AV}{σ σ':ASt}(e:y5 A R op dst vs σ=some σ'):y5 A d op dst vs σ=some σ':=by
 unfold y5 at e ⊢;split at e
 ·simp only[xaf]at e ⊢;obtain⟨r,b,c⟩:=e;exact⟨r,zoG h b,c⟩
 ·split at e
  ·simp only[xaf]at e ⊢;obtain⟨r,b,c⟩:=e;exact⟨r,zoG h b,c⟩
  ·cases e
 ·exact e
theorem zuM{R b:ACode->ASt->Option (zL×ASt)}(h:LeR R b){i:zu}{σ σ':ASt}(e:step A R i σ=some σ'):step A b i σ=some σ':=by
 unfold step at e ⊢;split at e
 ·cases e
 ·exact e
 ·simp only[xaa]at e ⊢;obtain⟨vs,c,d⟩:=e;exact⟨vs,c,zz2 h d⟩
theorem zeg{R b:ACode->ASt->Option (zL×ASt)}(h:LeR R b):∀{l:List zu} {σ σ':ASt},yK A R l σ=some σ'->yK A b l σ=some σ'
 |[],_,_,e=>e
 |i::l,σ,σ',e=>by
  simp only[yK,xaa]at e ⊢;obtain⟨σ1,c,d⟩:=e;exact⟨σ1,zuM h c,zeg h d⟩
theorem zn1:∀n,LeR (zy A n) (zy A (n+1))
 |0=>fun c σ r h=>by simp[zy]at h
 |n+1=>fun c σ r h=>by
  have ih:=zn1 n;cases c with
  |skip=>simp only[zy]at h ⊢;exact h
  |ops l=>
   rw[zy,xaf]at h;obtain⟨σ1,d,rfl⟩:=h;rw[zy,zeg ih d];rfl
  |opsC l c=>
   rw[zy,xaa]at h;obtain⟨σ1,d,h⟩:=h;rw[zy,zeg ih d];exact h
  |seq a b=>
   rw[zy]at h;rw[zy];split at h
   ·rename_i σ1 d;rw[ih _ _ _ d];exact ih _ _ _ h
   ·rename_i e;have:=ih _ _ _ h;rw[this];split
    ·rename_i σ1 d;cases d;exact absurd h (e _)
    ·rfl
  |cond c a b=>
   rw[zy]at h;rw[zy];split at h
   ·exact ih _ _ _ h
   ·cases h
  |block id c=>
   rw[zy]at h;rw[zy];split at h
   ·rename_i j σ1 d;rw[ih _ _ _ d];exact h
   ·rename_i e;rw[ih _ _ _ h];split
    ·rename_i j σ1 d;cases d;exact absurd h (e _ _)
    ·rfl
  |loop tm rg c=>
   rw[zy,xaa]at h;obtain⟨σ0,g,h⟩:=h;rw[zy,g];simp only[xae];split at h
   ·rename_i σ1 d;rw[ih _ _ _ d];exact ih _ _ _ h
   ·rename_i e;rw[ih _ _ _ h];split
    ·rename_i σ1 d;cases d;exact absurd h (e _)
    ·rfl
  |exit i=>simp only[zy]at h ⊢;exact h
  |ret=>simp only[zy]at h ⊢;exact h
  |label i=>simp only[zy]at h ⊢;exact h
  |goto i=>simp only[zy]at h ⊢;exact h
  |scope b c=>
   rw[zy]at h;rw[zy];split at h
   ·rename_i l σ1 d;rw[ih _ _ _ d];dsimp only;split at h
    ·exact ih _ _ _ h
    ·exact h
   ·rename_i e;rw[ih _ _ _ h];split
    ·rename_i j σ1 d;cases d;exact absurd h (e _ _)
    ·rfl
theorem wS{n m:Nat}(h:n<=m):LeR (zy A n) (zy A m):=by
 induction h with
 |refl=>exact fun _ _ _ h=>h
 |step _ ih=>exact fun c σ r h=>zn1 _ c σ r (ih c σ r h)
open Classical in
noncomputable def run(A:zA)(c:ACode)(σ:ASt):Option (zL×ASt):=if h:∃r,∃n,zy A n c σ=some r then some h.choose else none
theorem ja{c:ACode}{σ:ASt}{r:zL×ASt}:run A c σ=some r↔∃n,zy A n c σ=some r:=by
 unfold run;constructor
 ·intro h;split at h
  ·rename_i b;cases h;exact b.choose_spec
  ·cases h
 ·rintro⟨n,d⟩;have b:∃r,∃n,zy A n c σ=some r:=⟨r,n,d⟩;rw[dif_pos b];obtain⟨m,g⟩:=b.choose_spec;have i:=wS (A:=A) (Nat.le_max_left n m) _ _ _ d;have e:=wS (A:=A) (Nat.le_max_right n m) _ _ _ g;rw[i]at e;exact e.symm
theorem zBW(n:Nat):LeR (zy A n) (run A):=fun _ _ _ h=>ja.2 ⟨n,h⟩
theorem zc5{f:za}{args:List AV}{S:AS}{r:AV×AS}(e:enter (run A) f args S=some r):∃n,enter (zy A n) f args S=some r:=by
 unfold enter at e;split at e
 ·rename_i σ h1;obtain⟨n,b⟩:=ja.1 h1;exact⟨n,by unfold enter;rw[b];exact e⟩
 ·rename_i σ h1;obtain⟨n,b⟩:=ja.1 h1;exact⟨n,by unfold enter;rw[b];exact e⟩
 ·cases e
theorem zoE{key:Nat}{args:List AV}{S:AS}{r:AV×AS}(e:yq A (run A) key args S=some r):∃n,yq A (zy A n) key args S=some r:=by
 unfold yq at e;split at e
 ·cases e
 ·rename_i l;split at e
  ·rename_i g k;exact⟨0,by unfold yq;rw[if_neg l,k];exact e⟩
  ·rename_i k;simp only[xaa]at e;obtain⟨af,b,e⟩:=e;split at e
   ·rename_i c;obtain⟨n,m⟩:=zc5 e;exact⟨n,by unfold yq;rw[if_neg l,k];simp only[b,xae,c];exact m⟩
   ·rename_i c;split at e
    ·rename_i o;simp only[xaa]at e;obtain⟨a',m,d,h,i⟩:=e;obtain⟨n,j⟩:=zc5 h;refine⟨n,?_⟩;unfold yq;rw[if_neg l,k];simp only[b,xae,c];rw[if_pos o];simp only[xaa];exact⟨a',m,d,j,i⟩
    ·cases e
   ·rename_i c;simp only[xaa]at e;obtain⟨d,h,i⟩:=e;obtain⟨n,j⟩:=zc5 h;refine⟨n,?_⟩;unfold yq;rw[if_neg l,k];simp only[b,xae,c,xaa];exact⟨d,j,i⟩
   ·rename_i c;simp only[xaa]at e;obtain⟨a',m,d,h,i⟩:=e;obtain⟨n,j⟩:=zc5 h;refine⟨n,?_⟩;unfold yq;rw[if_neg l,k];simp only[b,xae,c,xaa];exact⟨a',m,d,j,i⟩
   ·rename_i c;simp only[xaa]at e;obtain⟨d,h,i⟩:=e;obtain⟨n,j⟩:=zc5 h;refine⟨n,?_⟩;unfold yq;rw[if_neg l,k];simp only[b,xae,c,xaa];exact⟨d,j,i⟩
   ·rename_i c;split at e
    ·rename_i o;simp only[xaa]at e;obtain⟨d,h,i⟩:=e;obtain⟨n,j⟩:=zc5 h;refine⟨n,?_⟩;unfold yq;rw[if_neg l,k];simp only[b,xae,c];rw[if_pos o];simp only[xaa];exact⟨d,j,i⟩
    ·cases e
theorem zz1{op:AOp}{dst:Option Nat}{vs:List AV}{σ σ':ASt}(e:y5 A (run A) op dst vs σ=some σ'):∃n,y5 A (zy A n) op dst vs σ=some σ':=by
 unfold y5 at e;split at e
 ·simp only[xaf]at e;obtain⟨r,b,c⟩:=e;obtain⟨n,d⟩:=zoE b;exact⟨n,by simp only[y5,d,xam,c]⟩
 ·split at e
  ·simp only[xaf]at e;obtain⟨r,b,c⟩:=e;obtain⟨n,d⟩:=zoE b;exact⟨n,by simp only[y5,d,xam,c]⟩
  ·cases e
 ·rename_i b c;exact⟨0,by rw[zkE (fun k g=>b k g) (fun g=>c g)];exact e⟩
theorem zJ6{i:zu}{σ σ':ASt}(e:step A (run A) i σ=some σ'):∃n,step A (zy A n) i σ=some σ':=by
 unfold step at e;split at e
 ·cases e
 ·rename_i h;exact⟨0,by unfold step;rw[h];exact e⟩
 ·rename_i h;simp only[xaa]at e;obtain⟨vs,b,c⟩:=e;obtain⟨n,d⟩:=zz1 c;exact⟨n,by unfold step;rw[h];simp only[b,xae,d]⟩
theorem zni:∀{l:List zu} {σ σ':ASt},yK A (run A) l σ=some σ'->∃n,yK A (zy A n) l σ=some σ'
 |[],_,_,e=>⟨0,e⟩
 |i::l,σ,σ',e=>by
  simp only[yK,xaa]at e;obtain⟨σ1,b,c⟩:=e;obtain⟨n,d⟩:=zJ6 b;obtain⟨m,g⟩:=zni c;refine⟨max n m,?_⟩;simp only[yK,xaa];exact⟨σ1,zuM (wS (Nat.le_max_left n m)) d,zeg (wS (Nat.le_max_right n m)) g⟩
theorem zt0{σ:ASt}:run A .skip σ=some (.normal,σ):=ja.2 ⟨1,rfl⟩
theorem ztQ{i:Nat}{σ:ASt}:run A (.exit i) σ=some (.exit i,σ):=ja.2 ⟨1,rfl⟩
theorem ztZ{σ:ASt}:run A .ret σ=some (.ret,σ):=ja.2 ⟨1,rfl⟩
theorem ztU{i:Nat}{σ:ASt}:run A (.label i) σ=some (.normal,σ):=ja.2 ⟨1,rfl⟩
theorem ztS{i:Nat}{σ:ASt}:run A (.goto i) σ=some (.goto i,σ):=ja.2 ⟨1,rfl⟩
theorem zIm{l:List zu}{σ σ':ASt}(h:yK A (run A) l σ=some σ'):run A (.ops l) σ=some (.normal,σ'):=by
 obtain⟨n,b⟩:=zni h;exact ja.2 ⟨n+1,by rw[zy,b];rfl⟩
theorem zIn{l:List zu}{c:List (Nat×Nat)}{σ σ':ASt}(h:yK A (run A) l σ=some σ')(b:zat σ'.tm c=true):run A (.opsC l c) σ=some (.normal,σ'):=by
 obtain⟨n,d⟩:=zni h;exact ja.2 ⟨n+1,by rw[zy,d,xae,if_pos b]⟩
theorem zIr{a b:ACode}{σ σ1:ASt}{r:zL×ASt}(h:run A a σ=some (.normal,σ1))(c:run A b σ1=some r):run A (.seq a b) σ=some r:=by
 obtain⟨n,d⟩:=ja.1 h;obtain⟨m,e⟩:=ja.1 c;refine ja.2 ⟨max n m+1,?_⟩;rw[zy,wS (Nat.le_max_left n m) _ _ _ d];exact wS (Nat.le_max_right n m) _ _ _ e
theorem zIs{a b:ACode}{σ σ1:ASt}{e:zL}(h:run A a σ=some (e,σ1))(c:e≠.normal):run A (.seq a b) σ=some (e,σ1):=by
 obtain⟨n,d⟩:=ja.1 h;refine ja.2 ⟨n+1,?_⟩;rw[zy,d];cases e<;>first|exact absurd rfl c|rfl
theorem zH8{c:zo}{a b:ACode}{σ:ASt}{t:Bool}{r:zL×ASt}(d:c.ev A σ.tm=some (.sc (.bool t)))(h:run A (if t then a else b) σ=some r):run A (.cond c a b) σ=some r:=by
 obtain⟨n,e⟩:=ja.1 h;exact ja.2 ⟨n+1,by rw[zy,d];exact e⟩
theorem ztL{id:Nat}{c:ACode}{σ σ1:ASt}{e:zL}(h:run A c σ=some (e,σ1)):run A (.block id c) σ=some ((match e with| .exit j=>if j=id then .normal else .exit j|e=>e),σ1):=by
 obtain⟨n,b⟩:=ja.1 h;refine ja.2 ⟨n+1,?_⟩;rw[zy,b];cases e<;>rfl
theorem zIi{tm rg:List Nat}{c:ACode}{σ σ0 σ1:ASt}{r:zL×ASt}(b:wF tm rg σ=some σ0)(h:run A c σ0=some (.normal,σ1))(d:run A (.loop tm rg c) σ1=some r):run A (.loop tm rg c) σ=some r:=by
 obtain⟨n,e⟩:=ja.1 h;obtain⟨m,g⟩:=ja.1 d;refine ja.2 ⟨max n m+1,?_⟩;rw[zy,b];simp only[xae];rw[wS (Nat.le_max_left n m) _ _ _ e];exact wS (Nat.le_max_right n m) _ _ _ g
theorem zIj{tm rg:List Nat}{c:ACode}{σ σ0 σ1:ASt}{e:zL}(b:wF tm rg σ=some σ0)(h:run A c σ0=some (e,σ1))(d:e≠.normal):run A (.loop tm rg c) σ=some (e,σ1):=by
 obtain⟨n,g⟩:=ja.1 h;refine ja.2 ⟨n+1,?_⟩;rw[zy,b];simp only[xae];rw[g];cases e<;>first|exact absurd rfl d|rfl
theorem zIp{b c:ACode}{σ σ1:ASt}{l:Nat}{c':ACode}{r:zL×ASt}(h:run A c σ=some (.goto l,σ1))(d:vn b l=some c')(e:run A (.scope b c') σ1=some r):run A (.scope b c) σ=some r:=by
 obtain⟨n,g⟩:=ja.1 h;obtain⟨m,i⟩:=ja.1 e;refine ja.2 ⟨max n m+1,?_⟩;rw[zy,wS (Nat.le_max_left n m) _ _ _ g];dsimp only;rw[d];exact wS (Nat.le_max_right n m) _ _ _ i
theorem zIq{b c:ACode}{σ σ1:ASt}{e:zL}(h:run A c σ=some (e,σ1))(d:∀l,e≠.goto l):run A (.scope b c) σ=some (e,σ1):=by
 obtain⟨n,g⟩:=ja.1 h;refine ja.2 ⟨n+1,?_⟩;rw[zy,g];cases e<;>first|exact absurd rfl (d _)|rfl
theorem zmK{P:Program}{K:Nat->Option Nat}(b:Ok P A K):jJ P A K (run A):=by
 intro code c σ e σ' D G ρ a w hK hok h hF;obtain⟨n,d⟩:=ja.1 h;exact(zn2 b n).1 code c σ e σ' D G ρ a w hK hok d hF
theorem zzu{P:Program}{K:Nat->Option Nat}{G:Gh}{w:World}(c:Ok P A K)(d:G.K=K){key f:Nat}(e:K key=some f){S:AS}(hS:Sim G S w)(g:qW A G w)
 {args:List AV} {b:List Value} (h:zx G w args b) {r:AV} {S':AS} (i:yq A (run A) key args S=some (r,S')):
 Calls P f b.toArray w (kq G S w r S'):=
 (zoH c (zmK c) d e hS g h i).2.1
end
end Abs
namespace Abs.I
open Go Abs
abbrev Z:List AV:=[.i 0,.s ⟨#[]⟩,.lst 0 true []]
abbrev E:AV:=.s ⟨#[]⟩
abbrev N:AV:=.lst 0 true []
abbrev _root_.Abs.ACode.q(l:List zu)(c:ACode):ACode:=.seq (.ops l) c
abbrev m(d a:Nat):zu:=⟨some d,.pur .mov,[.t a],none⟩
abbrev k(d:Nat)(v:AV):zu:=⟨some d,.pur .mov,[.k v],none⟩
abbrev i(d:Nat)(n:Int):zu:=⟨some d,.pur .mov,[.k (.i n)],none⟩
abbrev p(d:Nat)(o:POp)(a:List zo):zu:=⟨some d,.pur o,a,none⟩
abbrev o(d:Nat)(o:POp)(a:Nat):zu:=⟨some d,.pur o,[.t a],none⟩
abbrev f(d c a:Nat):zu:=⟨some d,.pur (.faddr c),[.t a],none⟩
abbrev e(d c a:Nat):zu:=⟨some d,.pur (.extract c),[.t a],none⟩
abbrev l(d r n:Nat)(b:Bool)(a:Nat):zu:=⟨some d,.ld (some r) n b,[.t a],none⟩
abbrev h(d n:Nat)(b:Bool)(a:Nat):zu:=⟨some d,.ld none n b,[.t a],none⟩
abbrev s(r n a b:Nat):zu:=⟨none,.st (some r) n,[.t a,.t b],none⟩
abbrev x(d a:Nat):zu:=⟨some d,.box .reg,[.t a],none⟩
abbrev c(d q:Nat)(a:List zo):zu:=⟨some d,.call q,a,none⟩
abbrev y(d:Nat)(o:AOp)(a:List zo):zu:=⟨some d,o,a,none⟩
abbrev w(d:Nat)(o:POp)(a:List zo)(g:Nat)(b:Bool):zu:=⟨some d,.pur o,a,some (g,b)⟩
abbrev u(d:Nat)(o:AOp)(a:List zo)(g:Nat)(b:Bool):zu:=⟨some d,o,a,some (g,b)⟩
end Abs.I
namespace Abs
open Go
def je(N:Nat)(e:Nat->AV):List AV:=(List.range N).map e
def st(N:Nat)(e:Nat->AV)(rg:Nat->Option (List AV))(S:AS):ASt:=⟨je N e,rg,S⟩
def put(e:Nat->AV)(d:Nat)(v:AV):Nat->AV:=fun n=>if n=d then v else e n
theorem zc7{N n:Nat}{e:Nat->AV}:(je N e).getD n .junk=if n<N then e n else .junk:=by
 unfold je;rw[xar,xat];by_cases h:n<N
 ·rw[if_pos h,List.getElem?_range h];rfl
 ·rw[if_neg h,xap (by simpa using h)];rfl
theorem zAd{N d:Nat}{e:Nat->AV}{v:AV}:(je N e).set d v=je N (put e d v):=by
 unfold je put;apply List.ext_getElem?;intro i;rw[xaw,xat,xat];by_cases c:i<N
 ·rw[List.getElem?_range c];by_cases b:d=i
  ·subst b;simp[c]
  ·simp[b,Ne.symm b]
 ·rw[xap (by simpa using c)];by_cases b:d=i
  ·subst b;simp;omega
  ·simp[b]
inductive Kn where
 |seq (b:ACode)
 |block (id:Nat)
 |loop (tm rg:List Nat) (c:ACode)
 |scope (b:ACode)
 |chk (c:List (Nat×Nat))
section
variable{A:zA}
noncomputable def zjW(A:zA)(r:Option (zL×ASt))(k:Kn):Option (zL×ASt):=
 match k with
 | .seq b=>match r with|some (.normal,σ)=>run A b σ|r=>r
 | .block id=>match r with|some (.exit j,σ)=>some (if j=id then .normal else .exit j,σ)|r=>r
 | .loop tm rg c=>match r with|some (.normal,σ)=>run A (.loop tm rg c) σ|r=>r
 | .scope b=>match r with
   |some (.goto l,σ)=>match vn b l with|some c=>run A (.scope b c) σ|none=>some (.goto l,σ)
   |r=>r
 | .chk c=>match r with|some (.normal,σ)=>if zat σ.tm c then some (.normal,σ)else none|r=>r
noncomputable def unw(A:zA)(r:Option (zL×ASt)):List Kn->Option (zL×ASt)
 |[]=>r
 |k::ks=>unw A (zjW A r k) ks
noncomputable def zH(A:zA)(c:ACode)(σ:ASt)(ks:List Kn):Option (zL×ASt):=unw A (run A c σ) ks
noncomputable def yQ(A:zA)(l:List zu)(σ:ASt)(ks:List Kn):Option (zL×ASt):=unw A ((yK A (run A) l σ).map fun σ=>(.normal,σ)) ks
theorem zKr{k:Kn}:zjW A none k=none:=by cases k<;>rfl
@[simp] theorem zbM{ks:List Kn}:unw A none ks=none:=by
 induction ks with
 |nil=>rfl
 |cons k ks ih=>simp only[unw,zKr,ih]
noncomputable def jn(A:zA)(R:ACode->ASt->Option (zL×ASt)):ACode->ASt->Option (zL×ASt)
 | .skip,σ=>some (.normal,σ)
 | .ops l,σ=>(yK A R l σ).map fun σ=>(.normal,σ)
 | .opsC l c,σ=>(yK A R l σ).bind fun σ=>if zat σ.tm c then some (.normal,σ)else none
 | .seq a b,σ=>
   match R a σ with
   |some (.normal,σ)=>R b σ
   |r=>r
 | .cond c a b,σ=>
   match c.ev A σ.tm with
   |some (.sc (.bool t))=>R (if t then a else b) σ
   |_=>none
 | .block id c,σ=>
   match R c σ with
   |some (.exit j,σ)=>some (if j=id then .normal else .exit j,σ)
   |r=>r
 | .loop tm rg c,σ=>
   (wF tm rg σ).bind fun σ=>
    match R c σ with
    |some (.normal,σ)=>R (.loop tm rg c) σ
    |r=>r
 | .exit id,σ=>some (.exit id,σ)
 | .label _,σ=>some (.normal,σ)
 | .goto l,σ=>some (.goto l,σ)
 | .scope b c,σ=>
   match R c σ with
   |some (.goto l,σ)=>match vn b l with
    |some c=>R (.scope b c) σ
    |none=>some (.goto l,σ)
   |r=>r
 | .ret,σ=>some (.ret,σ)
theorem zyP(n:Nat)(c:ACode)(σ:ASt):zy A (n+1) c σ=jn A (zy A n) c σ:=by cases c<;>rfl
theorem zJ3{R i:ACode->ASt->Option (zL×ASt)}(d:LeR R i){c:ACode}{σ:ASt}{r:zL×ASt}(h:jn A R c σ=some r):jn A i c σ=some r:=by
 cases c with
 |skip|exit _|label _|goto _|ret=>exact h
 |ops l=>
  simp only[jn,xaf]at h ⊢;obtain⟨σ1,e,rfl⟩:=h;exact⟨σ1,zeg d e,rfl⟩
 |opsC l c=>
  simp only[jn,xaa]at h ⊢;obtain⟨σ1,e,h⟩:=h;exact⟨σ1,zeg d e,h⟩
 |seq a b=>
  simp only[jn]at h ⊢;split at h
  ·rename_i σ1 e;rw[d _ _ _ e];exact d _ _ _ h
  ·rename_i g;rw[d _ _ _ h];split
   ·rename_i σ1 e;cases e;exact absurd h (g _)
   ·rfl
 |cond c a b=>
  simp only[jn]at h ⊢;split at h
  ·exact d _ _ _ h
  ·cases h
 |block id c=>
  simp only[jn]at h ⊢;split at h
  ·rename_i j σ1 e;rw[d _ _ _ e];exact h
  ·rename_i g;rw[d _ _ _ h];split
   ·rename_i j σ1 e;cases e;exact absurd h (g _ _)
   ·rfl
 |loop tm rg c=>
  simp only[jn,xaa]at h ⊢;obtain⟨σ0,k,h⟩:=h;refine⟨σ0,k,?_⟩;split at h
  ·rename_i σ1 e;rw[d _ _ _ e];exact d _ _ _ h
  ·rename_i g;rw[d _ _ _ h];split
   ·rename_i σ1 e;cases e;exact absurd h (g _)
   ·rfl
 |scope b c=>
  simp only[jn]at h ⊢;split at h
  ·rename_i l σ1 e;rw[d _ _ _ e];dsimp only;split at h
   ·exact d _ _ _ h
   ·exact h
  ·rename_i g;rw[d _ _ _ h];split
   ·rename_i j σ1 e;cases e;exact absurd h (g _ _)
   ·rfl
theorem zIl{c:ACode}{σ:ASt}{r:zL×ASt}(h:jn A (run A) c σ=some r):run A c σ=some r:=by
 cases c with
 |skip=>simp only[jn]at h;rw[zt0];exact h
 |exit i=>simp only[jn]at h;rw[ztQ];exact h
 |label i=>simp only[jn]at h;rw[ztU];exact h
 |goto i=>simp only[jn]at h;rw[ztS];exact h
 |ret=>simp only[jn]at h;rw[ztZ];exact h
 |ops l=>
  simp only[jn,xaf]at h;obtain⟨σ1,g,rfl⟩:=h;exact zIm g
 |opsC l c=>
  simp only[jn,xaa]at h;obtain⟨σ1,g,h⟩:=h;split at h
  ·rename_i p;cases h;exact zIn g p
  ·cases h
 |seq a b=>
  simp only[jn]at h;split at h
  ·rename_i σ1 g;exact zIr g h
  ·rename_i d;obtain⟨e,σ1⟩:=r;exact zIs h fun k=>by subst k;exact d _ h
 |cond c a b=>
  simp only[jn]at h;split at h
  ·rename_i t q;exact zH8 q h
  ·cases h
 |block id c=>
  simp only[jn]at h;split at h
  ·rename_i j σ1 g;cases h;exact ztL g
  ·rename_i d;obtain⟨e,σ1⟩:=r;have:=ztL (id:=id) h;rw[this];cases e<;>first|rfl|exact absurd h (d _ _)
 |loop tm rg c=>
  simp only[jn,xaa]at h;obtain⟨σ0,o,h⟩:=h;split at h
  ·rename_i σ1 g;exact zIi o g h
  ·rename_i d;obtain⟨e,σ1⟩:=r;exact zIj o h fun k=>by subst k;exact d _ h
 |scope b c=>
  simp only[jn]at h;split at h
  ·rename_i l σ1 g;split at h
   ·rename_i c' m;exact zIp g m h
   ·rename_i m;cases h;obtain⟨n,s⟩:=ja.1 g;refine ja.2 ⟨n+1,?_⟩;rw[zy,s];dsimp only;rw[m]
  ·rename_i d;obtain⟨e,σ1⟩:=r;exact zIq h fun l k=>by subst k;exact d _ _ h
theorem za2(c:ACode)(σ:ASt):run A c σ=jn A (run A) c σ:=by
 cases h:jn A (run A) c σ with
 |some r=>exact zIl h
 |none=>
  cases d:run A c σ with
  |none=>rfl
  |some r=>
   obtain⟨n,b⟩:=ja.1 d;cases n with
   |zero=>simp[zy]at b
   |succ n=>
    rw[zyP]at b;rw[zJ3 (zBW n) b]at h;cases h
@[simp] theorem zLY{σ:ASt}{ks:List Kn}:zH A .skip σ ks=unw A (some (.normal,σ)) ks:=by unfold zH;rw[zt0]
@[simp] theorem zLR{i:Nat}{σ:ASt}{ks:List Kn}:zH A (.exit i) σ ks=unw A (some (.exit i,σ)) ks:=by unfold zH;rw[ztQ]
@[simp] theorem zLW{σ:ASt}{ks:List Kn}:zH A .ret σ ks=unw A (some (.ret,σ)) ks:=by unfold zH;rw[ztZ]
@[simp] theorem zLT{i:Nat}{σ:ASt}{ks:List Kn}:zH A (.label i) σ ks=unw A (some (.normal,σ)) ks:=by unfold zH;rw[ztU]
@[simp] theorem zLS{i:Nat}{σ:ASt}{ks:List Kn}:zH A (.goto i) σ ks=unw A (some (.goto i,σ)) ks:=by unfold zH;rw[ztS]
@[simp] theorem zLX{a b:ACode}{σ:ASt}{ks:List Kn}:zH A (.seq a b) σ ks=zH A a σ (.seq b::ks):=by
 unfold zH;rw[za2];rfl
@[simp] theorem zLO{i:Nat}{c:ACode}{σ:ASt}{ks:List Kn}:zH A (.block i c) σ ks=zH A c σ (.block i::ks):=by
 unfold zH;rw[za2];rfl
@[simp] theorem zAv{b c:ACode}{σ:ASt}{ks:List Kn}:zH A (.scope b c) σ ks=zH A c σ (.scope b::ks):=by
 unfold zH;rw[za2];rfl
@[simp] theorem zLU{l:List zu}{σ:ASt}{ks:List Kn}:zH A (.ops l) σ ks=yQ A l σ ks:=by
 unfold zH;rw[za2];rfl
@[simp] theorem zLV{l:List zu}{c:List (Nat×Nat)}{σ:ASt}{ks:List Kn}:zH A (.opsC l c) σ ks=yQ A l σ (.chk c::ks):=by
 unfold zH yQ;rw[za2];simp only[jn,unw];cases yK A (run A) l σ<;>rfl
def br{α:Type}(c:AV)(a b:Option α):Option α:=
 match c with
 | .sc (.bool true)=>a
 | .sc (.bool false)=>b
 |_=>none
@[congr] theorem zKU{α:Type}{c c':AV}{a b:Option α}(h:c=c'):br c a b=br c' a b:=by rw[h]
@[simp] theorem zKW{α:Type}{a b:Option α}:br (.sc (.bool true)) a b=a:=rfl
@[simp] theorem zKV{α:Type}{a b:Option α}:br (.sc (.bool false)) a b=b:=rfl
def zkb(A:zA)(e:Nat->AV)(N:Nat):zo->Option AV
 | .t n=>some (if n<N then e n else .junk)
 | .k v=>some v
 | .g n=>A.glob n
theorem zyH{N:Nat}{e:Nat->AV}{x:zo}:x.ev A (je N e)=zkb A e N x:=by
 cases x<;>simp only[zo.ev,zkb,zc7]
@[simp] theorem zLQ{n:Nat}{a b:ACode}{N:Nat}{e:Nat->AV}{rg:Nat->Option (List AV)}{S:AS}{ks:List Kn}:
 zH A (.cond (.t n) a b) (st N e rg S) ks=br (if n<N then e n else .junk) (zH A a (st N e rg S) ks) (zH A b (st N e rg S) ks):=by
 unfold zH;rw[za2];simp only[jn,st,zo.ev,zc7];split
 ·rename_i t d;simp only[Option.some.injEq]at d;rw[d];cases t<;>rfl
 ·rename_i c;unfold br;split
  ·rename_i h;exact absurd (by rw[h]) (c true)
  ·rename_i h;exact absurd (by rw[h]) (c false)
  ·exact zbM
@[simp] theorem zLP{b:Bool}{x y:ACode}{σ:ASt}{ks:List Kn}:zH A (.cond (.k (.sc (.bool b))) x y) σ ks=zH A (if b then x else y) σ ks:=by
 unfold zH;rw[za2];rfl
@[simp] theorem znw{r:Option (zL×ASt)}:unw A r []=r:=rfl
@[simp] theorem zOZ{b:ACode}{σ:ASt}{ks:List Kn}:unw A (some (.normal,σ)) (.seq b::ks)=zH A b σ ks:=rfl
@[simp] theorem zO2{b:ACode}{σ:ASt}{ks:List Kn}:unw A (some (.ret,σ)) (.seq b::ks)=unw A (some (.ret,σ)) ks:=rfl
@[simp] theorem zO0{b:ACode}{i:Nat}{σ:ASt}{ks:List Kn}:unw A (some (.exit i,σ)) (.seq b::ks)=unw A (some (.exit i,σ)) ks:=rfl
@[simp] theorem zO1{b:ACode}{i:Nat}{σ:ASt}{ks:List Kn}:unw A (some (.goto i,σ)) (.seq b::ks)=unw A (some (.goto i,σ)) ks:=rfl
@[simp] theorem zOO{i:Nat}{σ:ASt}{ks:List Kn}:unw A (some (.normal,σ)) (.block i::ks)=unw A (some (.normal,σ)) ks:=rfl
@[simp] theorem zOR{i:Nat}{σ:ASt}{ks:List Kn}:unw A (some (.ret,σ)) (.block i::ks)=unw A (some (.ret,σ)) ks:=rfl
@[simp] theorem zOQ{i j:Nat}{σ:ASt}{ks:List Kn}:unw A (some (.goto j,σ)) (.block i::ks)=unw A (some (.goto j,σ)) ks:=rfl
@[simp] theorem zOP{i j:Nat}{σ:ASt}{ks:List Kn}:unw A (some (.exit j,σ)) (.block i::ks)=unw A (some (if j=i then .normal else .exit j,σ)) ks:=rfl
@[simp] theorem zOV{tm rg:List Nat}{c:ACode}{σ:ASt}{ks:List Kn}:unw A (some (.ret,σ)) (.loop tm rg c::ks)=unw A (some (.ret,σ)) ks:=rfl
@[simp] theorem zOT{tm rg:List Nat}{c:ACode}{i:Nat}{σ:ASt}{ks:List Kn}:unw A (some (.exit i,σ)) (.loop tm rg c::ks)=unw A (some (.exit i,σ)) ks:=rfl
@[simp] theorem zOU{tm rg:List Nat}{c:ACode}{i:Nat}{σ:ASt}{ks:List Kn}:unw A (some (.goto i,σ)) (.loop tm rg c::ks)=unw A (some (.goto i,σ)) ks:=rfl
theorem vR{tm rg:List Nat}{c:ACode}{σ:ASt}{ks:List Kn}:unw A (some (.normal,σ)) (.loop tm rg c::ks)=zH A (.loop tm rg c) σ ks:=rfl
@[simp] theorem zOW{b:ACode}{σ:ASt}{ks:List Kn}:unw A (some (.normal,σ)) (.scope b::ks)=unw A (some (.normal,σ)) ks:=rfl
@[simp] theorem zOY{b:ACode}{σ:ASt}{ks:List Kn}:unw A (some (.ret,σ)) (.scope b::ks)=unw A (some (.ret,σ)) ks:=rfl
@[simp] theorem zOX{b:ACode}{i:Nat}{σ:ASt}{ks:List Kn}:unw A (some (.exit i,σ)) (.scope b::ks)=unw A (some (.exit i,σ)) ks:=rfl
theorem zjX{b c:ACode}{i:Nat}{σ:ASt}{ks:List Kn}(h:vn b i=some c):unw A (some (.goto i,σ)) (.scope b::ks)=zH A c σ (.scope b::ks):=by
 rw[<-zAv];unfold zH;simp only[unw,zjW,h]
attribute [simp] zew zc0
def zgu(N:Nat)(e:Nat->AV)(c:List (Nat×Nat)):Bool:=c.all fun p=>zew (if p.1<N then e p.1 else .junk) p.2 (if p.2<N then e p.2 else .junk)
@[simp] theorem zOS{c:List (Nat×Nat)}{N:Nat}{e:Nat->AV}{rg:Nat->Option (List AV)}{S:AS}{ks:List Kn}:unw A (some (.normal,st N e rg S)) (.chk c::ks)=if zgu N e c then unw A (some (.normal,st N e rg S)) ks else none:=by
 have b:zat (st N e rg S).tm c=zgu N e c:=by
  unfold zat zgu;congr 1;funext p;simp only[st,zc7]
 simp only[unw,zjW,b];split
 ·rfl
 ·exact zbM
@[simp] theorem zKP{i r c j b c':Nat}:zcQ (.ptr i r c) (.ptr j b c')=(i !=j):=rfl
def fgt(tm:List Nat)(e:Nat->AV):Nat->AV:=fun n=>if tm.contains n then .junk else e n
theorem zAG{tm:List Nat}{N:Nat}{e:Nat->AV}{rg:Nat->Option (List AV)}{S:AS}:wF tm [] (st N e rg S)=some (st N (fgt tm e) rg S):=by
 unfold wF st;have c:((je N e).zipIdx.map fun p=>if tm.contains p.2 then AV.junk else p.1)=je N (fgt tm e):=by
  apply List.ext_getElem?;intro i;unfold je fgt;rw[xat,List.getElem?_zipIdx,xat,xat];by_cases b:i<N
  ·rw[List.getElem?_range b];simp
  ·rw[xap (by simpa using b)];rfl
 simp only;rw[c];refine(if_neg fun d=>?_).trans ?_
 ·obtain⟨x,_,g⟩:=List.any_eq_true.1 d;cases x<;>simp at g
 ·simp
theorem jG{tm:List Nat}{c:ACode}{N:Nat}{e:Nat->AV}{rg:Nat->Option (List AV)}{S:AS}{ks:List Kn}:
 zH A (.loop tm [] c) (st N e rg S) ks=zH A c (st N (fgt tm e) rg S) (.loop tm [] c::ks):=by
 unfold zH;rw[za2];simp only[jn,zAG,xae];rfl
noncomputable def zgw(A:zA)(o:Option AV)(d:Nat)(l:List zu)(N:Nat)(e:Nat->AV)(rg:Nat->Option (List AV))(S:AS)(ks:List Kn):Option (zL×ASt):=
 match o with
 |some v=>yQ A l (st N (put e d v) rg S) ks
 |none=>none
@[congr] theorem zLi{o o':Option AV}{d:Nat}{l:List zu}{N:Nat}{e:Nat->AV}{rg:Nat->Option (List AV)}{S:AS}{ks:List Kn}(h:o=o'):zgw A o d l N e rg S ks=zgw A o' d l N e rg S ks:=by rw[h]
@[simp] theorem zLj{v:AV}{d:Nat}{l:List zu}{N:Nat}{e:Nat->AV}{rg:Nat->Option (List AV)}{S:AS}{ks:List Kn}:zgw A (some v) d l N e rg S ks=yQ A l (st N (put e d v) rg S) ks:=rfl
def wi(e:Nat->AV):Option Nat->AV->(Nat->AV)
 |some d,v=>put e d v
 |none,_=>e
@[simp] theorem zOd{e:Nat->AV}{d:Nat}{v:AV}:wi e (some d) v=put e d v:=rfl
@[simp] theorem zOc{e:Nat->AV}{v:AV}:wi e none v=e:=rfl
def zf4(rg:Nat->Option (List AV)):Option (Nat×List AV)->(Nat->Option (List AV))
 |some (t,cs)=>upd rg t cs
 |none=>rg
@[simp] theorem zO4{rg:Nat->Option (List AV)}{t:Nat}{cs:List AV}:zf4 rg (some (t,cs))=upd rg t cs:=rfl
@[simp] theorem zO3{rg:Nat->Option (List AV)}:zf4 rg none=rg:=rfl
noncomputable def qi(A:zA)(o:Option (AV×Option (Nat×List AV)×AS))(d:Option Nat)(l:List zu)(N:Nat)(e:Nat->AV)(rg:Nat->Option (List AV))(ks:List Kn):Option (zL×ASt):=
 match o with
 |some (v,r,S)=>yQ A l (st N (wi e d v) (zf4 rg r) S) ks
 |none=>none
@[congr] theorem zLh{o o':Option (AV×Option (Nat×List AV)×AS)}{d:Option Nat}{l:List zu}{N:Nat}{e:Nat->AV}{rg:Nat->Option (List AV)}{ks:List Kn}(h:o=o'):qi A o d l N e rg ks=qi A o' d l N e rg ks:=by rw[h]
@[simp] theorem zzM{v:AV}{r:Option (Nat×List AV)}{S:AS}{d:Option Nat}{l:List zu}{N:Nat}{e:Nat->AV}{rg:Nat->Option (List AV)}{ks:List Kn}:qi A (some (v,r,S)) d l N e rg ks=yQ A l (st N (wi e d v) (zf4 rg r) S) ks:=rfl
noncomputable def zbl(A:zA)(o:Option (AV×AS))(d:Option Nat)(l:List zu)(N:Nat)(e:Nat->AV)(rg:Nat->Option (List AV))(ks:List Kn):Option (zL×ASt):=
 match o with
 |some (v,S)=>yQ A l (st N (wi e d v) rg S) ks
 |none=>none
@[congr] theorem zLg{o o':Option (AV×AS)}{d:Option Nat}{l:List zu}{N:Nat}{e:Nat->AV}{rg:Nat->Option (List AV)}{ks:List Kn}(h:o=o'):zbl A o d l N e rg ks=zbl A o' d l N e rg ks:=by rw[h]
@[simp] theorem zot{v:AV}{S:AS}{d:Option Nat}{l:List zu}{N:Nat}{e:Nat->AV}{rg:Nat->Option (List AV)}{ks:List Kn}:zbl A (some (v,S)) d l N e rg ks=yQ A l (st N (wi e d v) rg S) ks:=rfl
def yZ(A:zA)(e:Nat->AV)(N:Nat):List zo->Option (List AV)
 |[]=>some []
 |a::l=>(zkb A e N a).bind fun v=>(yZ A e N l).map (v::·)
theorem znW{N:Nat}{e:Nat->AV}:∀{xs:List zo},evs A (je N e) xs=yZ A e N xs
 |[]=>rfl
 |a::l=>by simp only[evs,yZ,zyH,znW]
@[simp] theorem zKS{N:Nat}{e:Nat->AV}:yZ A e N []=some []:=rfl
@[simp] theorem zKT{N n:Nat}{e:Nat->AV}{l:List zo}:yZ A e N (.t n::l)=(yZ A e N l).map ((if n<N then e n else .junk)::·):=rfl
@[simp] theorem zKR{N:Nat}{v:AV}{e:Nat->AV}{l:List zo}:yZ A e N (.k v::l)=(yZ A e N l).map (v::·):=rfl
@[simp] theorem zKQ{N n:Nat}{e:Nat->AV}{l:List zo}:yZ A e N (.g n::l)=(A.glob n).bind fun v=>(yZ A e N l).map (v::·):=rfl
theorem zbK{N:Nat}{e:Nat->AV}{rg:Nat->Option (List AV)}{S:AS}{d:Option Nat}{v:AV}:(st N e rg S).put d v=st N (wi e d v) rg S:=by
 cases d with
 |none=>rfl
 |some d=>simp only[ASt.put,st,zAd,wi]
@[simp] theorem zLL{σ:ASt}{ks:List Kn}:yQ A [] σ ks=unw A (some (.normal,σ)) ks:=rfl
noncomputable def zb3(A:zA)(op:AOp)(xs:List zo)(d:Option Nat)(l:List zu)(N:Nat)(e:Nat->AV)(rg:Nat->Option (List AV))(S:AS)(ks:List Kn):Option (zL×ASt):=
 match op with
 | .call key=>zbl A ((yZ A e N xs).bind fun vs=>yq A (run A) key vs S) d l N e rg ks
 | .callv=>zbl A ((yZ A e N xs).bind fun vs=>match vs with| .fn key first cap::rest=>yq A (run A) key (first++rest++cap) S|_=>none) d l N e rg ks
 |o=>qi A ((yZ A e N xs).bind fun vs=>ze o d rg S vs) d l N e rg ks
theorem zjN{op:AOp}{xs:List zo}{d:Option Nat}{l:List zu}{N:Nat}{e:Nat->AV}{rg:Nat->Option (List AV)}{S:AS}{ks:List Kn}:
 yQ A (⟨d,op,xs,none⟩::l) (st N e rg S) ks=zb3 A op xs d l N e rg S ks:=by
 unfold yQ;have h:yK A (run A) (⟨d,op,xs,none⟩::l) (st N e rg S)=((yZ A e N xs).bind fun vs=>y5 A (run A) op d vs (st N e rg S)).bind (yK A (run A) l):=by
  simp only[yK,step,qB];rw[show(st N e rg S).tm=je N e from rfl,znW]
 rw[h];cases g:yZ A e N xs with
 |none=>
  simp only[Option.bind_none,Option.map_none,zbM];unfold zb3;split<;>rw[g]<;>rfl
 |some vs=>
  simp only[xae];have c:∀{o:AOp},y5 A (run A) o d vs (st N e rg S)=(ze o d (st N e rg S).rg (st N e rg S).S vs).map (fun r=>({st N e rg S with S:=r.2.2}.regs r.2.1).put d r.1)->
   unw A (((y5 A (run A) o d vs (st N e rg S)).bind (yK A (run A) l)).map fun σ=>(.normal,σ)) ks=qi A ((some vs).bind fun vs=>ze o d rg S vs) d l N e rg ks:=by
   intro o j;rw[j];rw[show(st N e rg S).rg=rg from rfl,show(st N e rg S).S=S from rfl];simp only[xae];cases i:ze o d rg S vs with
   |none=>simp only[Option.map_none,Option.bind_none,zbM];rfl
   |some r=>
    obtain⟨v,q,S'⟩:=r;simp only[xam,xae,zzM];have:(({st N e rg S with S:=S'}:ASt).regs q).put d v=st N (wi e d v) (zf4 rg q) S':=by
     cases q with
     |none=>exact zbK (S:=S')
     |some q=>obtain⟨t,cs⟩:=q;exact zbK (rg:=upd rg t cs) (S:=S')
    rw[this];rfl
  cases op with
  |call key=>
   simp only[zb3,y5,g,xae];rw[show(st N e rg S).S=S from rfl];cases i:yq A (run A) key vs S with
   |none=>simp only[Option.map_none,Option.bind_none,zbM];rfl
   |some r=>
    obtain⟨v,S'⟩:=r;simp only[xam,xae,zot];rw[show({st N e rg S with S:=S'}:ASt).put d v=st N (wi e d v) rg S' from zbK (S:=S')];rfl
  |callv=>
   simp only[zb3,y5,g,xae];have b:unw A (Option.map (fun σ=>(zL.normal,σ)) (Option.bind (none:Option ASt) (yK A (run A) l))) ks=zbl A none d l N e rg ks:=by
    simp only[Option.bind_none,Option.map_none,zbM];rfl
   cases vs with
   |nil=>exact b
   |cons v rest=>
    cases v with
    |fn key first cap=>
     dsimp only;rw[show(st N e rg S).S=S from rfl];cases i:yq A (run A) key (first++rest++cap) S with
     |none=>exact b
     |some r=>
      obtain⟨v,S'⟩:=r;simp only[xam,xae,zot];rw[show({st N e rg S with S:=S'}:ASt).put d v=st N (wi e d v) rg S' from zbK (S:=S')];rfl
    |_=>exact b
  |_=>simp only[zb3,g];exact c rfl
@[simp] theorem zLM{p:POp}{xs:List zo}{d:Nat}{l:List zu}{N:Nat}{e:Nat->AV}{rg:Nat->Option (List AV)}{S:AS}{ks:List Kn}:
 yQ A (⟨some d,.pur p,xs,none⟩::l) (st N e rg S) ks=zgw A ((yZ A e N xs).bind (pev p)) d l N e rg S ks:=by
 rw[zjN];simp only[zb3];cases h:yZ A e N xs with
 |none=>rfl
 |some vs=>
  simp only[xae,ze];cases b:pev p vs with
  |none=>rfl
  |some v=>rfl
@[simp] theorem zLz{key:Nat}{xs:List zo}{d:Option Nat}{l:List zu}{N:Nat}{e:Nat->AV}{rg:Nat->Option (List AV)}{S:AS}{ks:List Kn}:
 yQ A (⟨d,.call key,xs,none⟩::l) (st N e rg S) ks=zbl A ((yZ A e N xs).bind fun vs=>yq A (run A) key vs S) d l N e rg ks:=zjN
noncomputable def zgs(A:zA)(S:AS):List AV->Option (AV×AS)
 | .fn key first cap::rest=>yq A (run A) key (first++rest++cap) S
 |_=>none
@[simp] theorem zKX{S:AS}{key:Nat}{first cap rest:List AV}:zgs A S (.fn key first cap::rest)=yq A (run A) key (first++rest++cap) S:=rfl
@[simp] theorem zLA{xs:List zo}{d:Option Nat}{l:List zu}{N:Nat}{e:Nat->AV}{rg:Nat->Option (List AV)}{S:AS}{ks:List Kn}:
 yQ A (⟨d,.callv,xs,none⟩::l) (st N e rg S) ks=zbl A ((yZ A e N xs).bind (zgs A S)) d l N e rg ks:=by
 rw[zjN];unfold zb3;congr 2
def AOp.mem:AOp->Bool
 | .pur _| .call _| .callv=>false
 |_=>true
theorem vV{o:AOp}{xs:List zo}{d:Option Nat}{l:List zu}{N:Nat}{e:Nat->AV}{rg:Nat->Option (List AV)}{S:AS}{ks:List Kn}(h:o.mem=true):
 yQ A (⟨d,o,xs,none⟩::l) (st N e rg S) ks=qi A ((yZ A e N xs).bind (ze o d rg S)) d l N e rg ks:=by
 rw[zjN];cases o<;>first|rfl|(simp[AOp.mem]at h)
@[simp] theorem zLF{r:Option Nat}{sz:Nat}{g:Bool}{xs:List zo}{d:Option Nat}{l:List zu}{N:Nat}{e:Nat->AV}{rg:Nat->Option (List AV)}{S:AS}{ks:List Kn}:
 yQ A (⟨d,.ld r sz g,xs,none⟩::l) (st N e rg S) ks=qi A ((yZ A e N xs).bind (ze (.ld r sz g) d rg S)) d l N e rg ks:=vV rfl
@[simp] theorem zLN{r:Option Nat}{sz:Nat}{xs:List zo}{d:Option Nat}{l:List zu}{N:Nat}{e:Nat->AV}{rg:Nat->Option (List AV)}{S:AS}{ks:List Kn}:
 yQ A (⟨d,.st r sz,xs,none⟩::l) (st N e rg S) ks=qi A ((yZ A e N xs).bind (ze (.st r sz) d rg S)) d l N e rg ks:=vV rfl
@[simp] theorem zLv{k:zcL}{z:List AV}{xs:List zo}{d:Option Nat}{l:List zu}{N:Nat}{e:Nat->AV}{rg:Nat->Option (List AV)}{S:AS}{ks:List Kn}:
 yQ A (⟨d,.alloc k z,xs,none⟩::l) (st N e rg S) ks=qi A ((yZ A e N xs).bind (ze (.alloc k z) d rg S)) d l N e rg ks:=vV rfl
@[simp] theorem zLy{k:zcL}{xs:List zo}{d:Option Nat}{l:List zu}{N:Nat}{e:Nat->AV}{rg:Nat->Option (List AV)}{S:AS}{ks:List Kn}:
 yQ A (⟨d,.box k,xs,none⟩::l) (st N e rg S) ks=qi A ((yZ A e N xs).bind (ze (.box k) d rg S)) d l N e rg ks:=vV rfl
@[simp] theorem zLH{s ok:Bool}{z:AV}{xs:List zo}{d:Option Nat}{l:List zu}{N:Nat}{e:Nat->AV}{rg:Nat->Option (List AV)}{S:AS}{ks:List Kn}:
 yQ A (⟨d,.lookup s z ok,xs,none⟩::l) (st N e rg S) ks=qi A ((yZ A e N xs).bind (ze (.lookup s z ok) d rg S)) d l N e rg ks:=vV rfl
@[simp] theorem zLG{xs:List zo}{d:Option Nat}{l:List zu}{N:Nat}{e:Nat->AV}{rg:Nat->Option (List AV)}{S:AS}{ks:List Kn}:
 yQ A (⟨d,.lenM,xs,none⟩::l) (st N e rg S) ks=qi A ((yZ A e N xs).bind (ze .lenM d rg S)) d l N e rg ks:=vV rfl
@[simp] theorem zLJ{xs:List zo}{d:Option Nat}{l:List zu}{N:Nat}{e:Nat->AV}{rg:Nat->Option (List AV)}{S:AS}{ks:List Kn}:
 yQ A (⟨d,.mkmap,xs,none⟩::l) (st N e rg S) ks=qi A ((yZ A e N xs).bind (ze .mkmap d rg S)) d l N e rg ks:=vV rfl
@[simp] theorem zLI{s:Bool}{xs:List zo}{d:Option Nat}{l:List zu}{N:Nat}{e:Nat->AV}{rg:Nat->Option (List AV)}{S:AS}{ks:List Kn}:
 yQ A (⟨d,.mapset s,xs,none⟩::l) (st N e rg S) ks=qi A ((yZ A e N xs).bind (ze (.mapset s) d rg S)) d l N e rg ks:=vV rfl
@[simp] theorem zLB{xs:List zo}{d:Option Nat}{l:List zu}{N:Nat}{e:Nat->AV}{rg:Nat->Option (List AV)}{S:AS}{ks:List Kn}:
 yQ A (⟨d,.clearM,xs,none⟩::l) (st N e rg S) ks=qi A ((yZ A e N xs).bind (ze .clearM d rg S)) d l N e rg ks:=vV rfl
@[simp] theorem zLw{s b:Nat}{xs:List zo}{d:Option Nat}{l:List zu}{N:Nat}{e:Nat->AV}{rg:Nat->Option (List AV)}{S:AS}{ks:List Kn}:
 yQ A (⟨d,.append s b,xs,none⟩::l) (st N e rg S) ks=qi A ((yZ A e N xs).bind (ze (.append s b) d rg S)) d l N e rg ks:=vV rfl
@[simp] theorem zLK{s b:Nat}{z:List AV}{xs:List zo}{d:Option Nat}{l:List zu}{N:Nat}{e:Nat->AV}{rg:Nat->Option (List AV)}{S:AS}{ks:List Kn}:
 yQ A (⟨d,.mkslice s b z,xs,none⟩::l) (st N e rg S) ks=qi A ((yZ A e N xs).bind (ze (.mkslice s b z) d rg S)) d l N e rg ks:=vV rfl
@[simp] theorem zLx{s b:Nat}{z:List AV}{xs:List zo}{d:Option Nat}{l:List zu}{N:Nat}{e:Nat->AV}{rg:Nat->Option (List AV)}{S:AS}{ks:List Kn}:
 yQ A (⟨d,.appendZ s b z,xs,none⟩::l) (st N e rg S) ks=qi A ((yZ A e N xs).bind (ze (.appendZ s b z) d rg S)) d l N e rg ks:=vV rfl
@[simp] theorem zLD{s:Nat}{xs:List zo}{d:Option Nat}{l:List zu}{N:Nat}{e:Nat->AV}{rg:Nat->Option (List AV)}{S:AS}{ks:List Kn}:
 yQ A (⟨d,.copy s,xs,none⟩::l) (st N e rg S) ks=qi A ((yZ A e N xs).bind (ze (.copy s) d rg S)) d l N e rg ks:=vV rfl
@[simp] theorem zLC{s:Nat}{z:List AV}{xs:List zo}{d:Option Nat}{l:List zu}{N:Nat}{e:Nat->AV}{rg:Nat->Option (List AV)}{S:AS}{ks:List Kn}:
 yQ A (⟨d,.clearS s z,xs,none⟩::l) (st N e rg S) ks=qi A ((yZ A e N xs).bind (ze (.clearS s z) d rg S)) d l N e rg ks:=vV rfl
def gd{α:Type}(b:Bool)(c:AV)(a n:Option α):Option α:=
 match c with
 | .sc (.bool c)=>if c==b then a else n
 | .tup _=>n
 |_=>none
@[congr] theorem zMf{α:Type}{b:Bool}{c c':AV}{a n:Option α}(h:c=c'):gd b c a n=gd b c' a n:=by rw[h]
@[simp] theorem zMj{α:Type}{a n:Option α}:gd true (.sc (.bool true)) a n=a:=rfl
@[simp] theorem zMi{α:Type}{a n:Option α}:gd true (.sc (.bool false)) a n=n:=rfl
@[simp] theorem zMh{α:Type}{a n:Option α}:gd false (.sc (.bool true)) a n=n:=rfl
@[simp] theorem zMg{α:Type}{a n:Option α}:gd false (.sc (.bool false)) a n=a:=rfl
@[simp] theorem zMk{α:Type}{b:Bool}{vs:List AV}{a n:Option α}:gd b (.tup vs) a n=n:=rfl
@[simp] theorem zLE{op:AOp}{xs:List zo}{d:Option Nat}{l:List zu}{t:Nat}{b:Bool}{N:Nat}{e:Nat->AV}{rg:Nat->Option (List AV)}{S:AS}{ks:List Kn}:
 yQ A (⟨d,op,xs,some (t,b)⟩::l) (st N e rg S) ks=gd b (if t<N then e t else .junk) (yQ A (⟨d,op,xs,none⟩::l) (st N e rg S) ks) (yQ A l (st N (wi e d (.tup [])) rg S) ks):=by
 unfold yQ;simp only[yK,step,qB];rw[show(st N e rg S).tm=je N e from rfl,zc7];generalize(if t<N then e t else AV.junk)=v;unfold gd;cases v with
 |sc u=>
  cases u with
  |bool c=>
   cases c<;>cases b<;>first|rfl|(simp[zbK];done)|(simp only[zbK];rfl)
  |_=>exact zbM
 |tup vs=>simp[zbK]
 |_=>exact zbM
theorem zn{e:Nat->AV}{d n:Nat}{v:AV}:put e d v n=if n=d then v else e n:=rfl
@[simp] theorem zOe{e:Nat->AV}{d:Nat}{v:AV}:put e d v d=v:=if_pos rfl
@[simp] theorem zlC{e:Nat->AV}{tm:List Nat}{n:Nat}:fgt tm e n=if tm.contains n then .junk else e n:=rfl
theorem qR{rg:Nat->Option (List AV)}{t n:Nat}{cs:List AV}:upd rg t cs n=if n=t then some cs else rg n:=rfl
def ini(args:List AV):Nat->AV:=fun n=>args.getD n .junk
@[simp] theorem zMn{a:AV}{l:List AV}:ini (a::l) 0=a:=rfl
@[simp] theorem zMm{a:AV}{l:List AV}{n:Nat}:ini (a::l) (n+1)=ini l n:=by simp[ini]
@[simp] theorem zMl{n:Nat}:ini [] n=.junk:=by simp[ini]
theorem znf{f:za}{args:List AV}{S:AS}(h:args.length<=f.ntmps):f.start args S=st f.ntmps (ini args) (fun _=>none) S:=by
 unfold za.start st;congr 1;apply List.ext_getElem?;intro i;unfold je ini;rw[List.getElem?_append,xat];by_cases c:i<f.ntmps
 ·rw[List.getElem?_range c];by_cases b:i<args.length
  ·simp[b]
  ·rw[if_neg b,List.getElem?_replicate,if_pos (by omega)];simp[Nat.le_of_not_lt b]
 ·rw[xap (l:=List.range _) (by simpa using c),if_neg (by omega),xap (by simp;omega)];rfl
def yN:vi->Nat->(Nat->AV)->(Nat->Option (List AV))->AS->Option AV
 | .tmp t,N,e,_,_=>match(if t<N then e t else .junk)with| .reg _ _=>none|v=>some v
 | .cell t sz g,N,e,rg,S=>
   match(if t<N then e t else .junk)with
   | .reg r c=>(rg r).bind fun cs=>yW cs c sz g
   | .iptr cs=>yW cs 0 sz g
   | .ptr id row c=>match S.heap id with
     |some (.rows _ rs)=>(rs[row]?).bind fun cs=>yW cs c sz g
     |_=>none
   |_=>none
theorem zHJ{N:Nat}{e:Nat->AV}{rg:Nat->Option (List AV)}{S:AS}{r:vi}:zd6 (je N e) rg S r=yN r N e rg S:=by
 cases r with
 |tmp t=>simp only[zd6,yN,zc7];generalize(if t<N then e t else AV.junk)=v;cases v<;>rfl
 |cell t sz g=>
  simp only[zd6,yN,zc7];generalize(if t<N then e t else AV.junk)=v;cases v<;>first|rfl|(dsimp only;generalize S.heap _=o;cases o with|none=>rfl|some o=>cases o<;>rfl)
def yD:List vi->Nat->(Nat->AV)->(Nat->Option (List AV))->AS->Option (List AV)
 |[],_,_,_,_=>some []
 |r::l,N,e,rg,S=>(yN r N e rg S).bind fun v=>(yD l N e rg S).map (v::·)
theorem zjz{N:Nat}{e:Nat->AV}{rg:Nat->Option (List AV)}{S:AS}:∀{r:List vi},za0 (je N e) rg S r=yD r N e rg S
 |[]=>rfl
 |r::l=>by simp only[za0,yD,zHJ,zjz]
def zf3:List AV->AV
 |[v]=>v
 |vs=>.tup vs
@[simp] theorem zOL:zf3 []=.tup []:=rfl
@[simp] theorem zOM{v:AV}:zf3 [v]=v:=rfl
@[simp] theorem zON{v u:AV}{vs:List AV}:zf3 (v::u::vs)=.tup (v::u::vs):=rfl
def wV(o:Option (List AV))(S:AS):Option (AV×AS):=o.map fun vs=>(zf3 vs,S)
@[simp] theorem zLk{vs:List AV}{S:AS}:wV (some vs) S=some (zf3 vs,S):=rfl
def fin(b:List vi)(r:Option (zL×ASt)):Option (AV×AS):=
 match r with
 |some (.normal,σ)|some (.ret,σ)=>wV (za0 σ.tm σ.rg σ.S b) σ.S
 |_=>none
@[congr] theorem zL0{f:List vi}{r b:Option (zL×ASt)}(h:r=b):fin f r=fin f b:=by rw[h]
theorem zoL{f:za}{σ:ASt}:f.done σ=wV (za0 σ.tm σ.rg σ.S f.res) σ.S:=by
 unfold za.done wV;congr 1;funext vs;cases vs with
 |nil=>rfl
 |cons v vs=>cases vs<;>rfl
theorem zkD{f:za}{N:Nat}{e:Nat->AV}{rg:Nat->Option (List AV)}{S:AS}:f.done (st N e rg S)=wV (yD f.res N e rg S) S:=by
 rw[zoL,<-zjz];rfl
@[simp] theorem zL1{f:List vi}{N:Nat}{e:Nat->AV}{rg:Nat->Option (List AV)}{S:AS}:fin f (some (.normal,st N e rg S))=wV (yD f N e rg S) S:=by
 rw[<-zjz];rfl
@[simp] theorem zL2{f:List vi}{N:Nat}{e:Nat->AV}{rg:Nat->Option (List AV)}{S:AS}:fin f (some (.ret,st N e rg S))=wV (yD f N e rg S) S:=by
 rw[<-zjz];rfl
theorem zoS{f:za}{args:List AV}{S:AS}(h:args.length<=f.ntmps):enter (run A) f args S=fin f.res (zH A f.body (st f.ntmps (ini args) (fun _=>none) S) []):=by
 unfold enter;rw[znf h];unfold zH;rw[znw];generalize run A f.body _=r;unfold fin;split<;>simp_all [zoL]
end
section
variable{A:zA}
@[simp] theorem zBa{v:Value}:(AV.sc v).isReg=false:=rfl
@[simp] theorem zMw{l:List AV}:(AV.agg l).isReg=false:=rfl
@[simp] theorem zMH{l:List AV}:(AV.tup l).isReg=false:=rfl
@[simp] theorem zMB{s:Nat}{f:Bool}{l:List (List AV)}:(AV.lst s f l).isReg=false:=rfl
@[simp] theorem zMC{s:Nat}{l:List (List AV)}:(lstN s l).isReg=false:=rfl
@[simp] theorem zMx{a b c d:Nat}{e:Option Nat}:(AV.arr a b c d e).isReg=false:=rfl
@[simp] theorem zMF{a b c:Nat}:(AV.ptr a b c).isReg=false:=rfl
@[simp] theorem zMz{l:List AV}:(AV.iptr l).isReg=false:=rfl
@[simp] theorem zMy{a:Nat}{b c:List AV}:(AV.fn a b c).isReg=false:=rfl
@[simp] theorem zMD{a:Nat}:(AV.mp a).isReg=false:=rfl
@[simp] theorem zME:AV.opq.isReg=false:=rfl
@[simp] theorem zMA:AV.junk.isReg=false:=rfl
@[simp] theorem zK0{l:List AV}:(AV.agg l).cells=l:=rfl
@[simp] theorem zzy{v:Value}:(AV.sc v).cells=[.sc v]:=rfl
@[simp] theorem zK4{s:Nat}{f:Bool}{l:List (List AV)}:(AV.lst s f l).cells=[.lst s f l]:=rfl
@[simp] theorem zK5{s:Nat}{l:List (List AV)}:(lstN s l).cells=[lstN s l]:=rfl
@[simp] theorem zK1{a b c d:Nat}{e:Option Nat}:(AV.arr a b c d e).cells=[.arr a b c d e]:=rfl
@[simp] theorem zK7{a b c:Nat}:(AV.ptr a b c).cells=[.ptr a b c]:=rfl
@[simp] theorem zK3{l:List AV}:(AV.iptr l).cells=[.iptr l]:=rfl
@[simp] theorem zK2{a:Nat}{b c:List AV}:(AV.fn a b c).cells=[.fn a b c]:=rfl
@[simp] theorem zK6{a:Nat}:(AV.mp a).cells=[.mp a]:=rfl
@[simp] theorem zA6{v:Value}:(AV.sc v).isCell=true:=rfl
@[simp] theorem zMr{s:Nat}{f:Bool}{l:List (List AV)}:(AV.lst s f l).isCell=true:=rfl
@[simp] theorem zMs{s:Nat}{l:List (List AV)}:(lstN s l).isCell=true:=rfl
@[simp] theorem zMo{a b c d:Nat}{e:Option Nat}:(AV.arr a b c d e).isCell=true:=rfl
@[simp] theorem zMv{a b c:Nat}:(AV.ptr a b c).isCell=true:=rfl
@[simp] theorem zMq{l:List AV}:(AV.iptr l).isCell=true:=rfl
@[simp] theorem zMp{a:Nat}{b c:List AV}:(AV.fn a b c).isCell=true:=rfl
@[simp] theorem zMt{a:Nat}:(AV.mp a).isCell=true:=rfl
@[simp] theorem zMu:AV.opq.isCell=true:=rfl
@[simp] theorem zNH{v:AV}:pev .mov [v]=some v:=rfl
@[simp] theorem zNZ{a b:AV}:pev .pick [.sc (.bool true),a,b]=if a.isReg||b.isReg then none else some a:=rfl
@[simp] theorem zNY{a b:AV}:pev .pick [.sc (.bool false),a,b]=if a.isReg||b.isReg then none else some b:=rfl
theorem zad{op:BinOp}{k:IntKind}{a b:Int}:pev (.bin op) [.sc (.int k a),.sc (.int k b)]=(vL op k a b).map .sc:=by
 simp[pev]
@[simp] theorem zNf{k:IntKind}{a b:Int}:pev (.bin .add) [.sc (.int k a),.sc (.int k b)]=some (.sc (.int k (k.wrap (a+b)))):=by rw[zad];rfl
@[simp] theorem zN8{k:IntKind}{a b:Int}:pev (.bin .sub) [.sc (.int k a),.sc (.int k b)]=some (.sc (.int k (k.wrap (a-b)))):=by rw[zad];rfl
@[simp] theorem zNI{k:IntKind}{a b:Int}:pev (.bin .mul) [.sc (.int k a),.sc (.int k b)]=some (.sc (.int k (k.wrap (a*b)))):=by rw[zad];rfl
@[simp] theorem zGv{k:IntKind}{a b:Int}:pev (.bin .and) [.sc (.int k a),.sc (.int k b)]=some (.sc (.int k (k.wrap (BitVec.ofInt k.bits a&&&BitVec.ofInt k.bits b).toNat))):=by rw[zad];rfl
@[simp] theorem zNq{k:IntKind}{a b:Int}:pev (.bin .eql) [.sc (.int k a),.sc (.int k b)]=some (.sc (.bool (decide (a=b)))):=by
 rw[zad];simp[vL,BEq.beq,Int.instDecidableEq]
@[simp] theorem zNK{k:IntKind}{a b:Int}:pev (.bin .neq) [.sc (.int k a),.sc (.int k b)]=some (.sc (.bool (!decide (a=b)))):=by
 rw[zad];simp[vL,bne,BEq.beq,Int.instDecidableEq]
@[simp] theorem zND{k:IntKind}{a b:Int}:pev (.bin .lss) [.sc (.int k a),.sc (.int k b)]=some (.sc (.bool (decide (a<b)))):=by rw[zad];rfl
@[simp] theorem zNC{k:IntKind}{a b:Int}:pev (.bin .leq) [.sc (.int k a),.sc (.int k b)]=some (.sc (.bool (decide (a<=b)))):=by rw[zad];rfl
@[simp] theorem zNx{k:IntKind}{a b:Int}:pev (.bin .gtr) [.sc (.int k a),.sc (.int k b)]=some (.sc (.bool (decide (b<a)))):=by rw[zad];rfl
@[simp] theorem zNw{k:IntKind}{a b:Int}:pev (.bin .geq) [.sc (.int k a),.sc (.int k b)]=some (.sc (.bool (decide (b<=a)))):=by rw[zad];rfl
theorem zgo(x y:ByteArray):(x.toList==y.toList)=decide (x=y):=by
 rw[<-beq_toListBytes];by_cases h:x=y
 ·rw[decide_eq_true h,zbf.2 h]
 ·rw[decide_eq_false h];cases b:(x==y)with
  |false=>rfl
  |true=>exact absurd (zbf.1 b) h
@[simp] theorem zN0{x y:ByteArray}:pev (.bin .eql) [.sc (.string x),.sc (.string y)]=some (.sc (.bool (decide (x=y)))):=by simp[pev,wm,zgo]
@[simp] theorem zN6{x y:ByteArray}:pev (.bin .neq) [.sc (.string x),.sc (.string y)]=some (.sc (.bool (!decide (x=y)))):=by simp[pev,wm,zgo]
def sLt(x y:ByteArray):Bool:=zbX x.toList y.toList
@[simp] theorem zN5{x y:ByteArray}:pev (.bin .lss) [.sc (.string x),.sc (.string y)]=some (.sc (.bool (sLt x y))):=rfl
@[simp] theorem zN1{x y:ByteArray}:pev (.bin .geq) [.sc (.string x),.sc (.string y)]=some (.sc (.bool (!sLt x y))):=rfl
@[simp] theorem zN4{x y:ByteArray}:pev (.bin .leq) [.sc (.string x),.sc (.string y)]=some (.sc (.bool (sLt x y||decide (x=y)))):=by simp[pev,wm,zgo,sLt]
@[simp] theorem zN2{x y:ByteArray}:pev (.bin .gtr) [.sc (.string x),.sc (.string y)]=some (.sc (.bool (!(sLt x y||decide (x=y))))):=by simp[pev,wm,zgo,sLt]
theorem yz{x y:ByteArray}(h:x.size+y.size<=9223372036854775807):pev (.bin .add) [.sc (.string x),.sc (.string y)]=some (.sc (.string (x++y))):=by
 have:¬(((x.size+y.size:Nat):Int) > IntKind.i64.max):=by
  have:IntKind.i64.max=9223372036854775807:=by decide
  rw[this];omega
 simp only[pev,wm,if_neg this,xam]
@[simp] theorem zNp{ne a b:Bool}:pev (.eqB ne) [.sc (.bool a),.sc (.bool b)]=some (.sc (.bool (if ne then a !=b else a==b))):=rfl
@[simp] theorem zNN{ne:Bool}:pev (.nilI ne) [.sc .nilIface]=some (.sc (.bool (!ne))):=rfl
@[simp] theorem zNO{ne:Bool}:pev (.nilI ne) [.opq]=some (.sc (.bool ne)):=rfl
@[simp] theorem zNP{ne:Bool}:pev (.nilP ne) [.sc (.pointer none)]=some (.sc (.bool (!ne))):=rfl
@[simp] theorem zNQ{ne:Bool}{a b c:Nat}:pev (.nilP ne) [.ptr a b c]=some (.sc (.bool ne)):=rfl
@[simp] theorem zNR{ne:Bool}{l:List AV}:pev (.nilP ne) [.iptr l]=some (.sc (.bool ne)):=rfl
@[simp] theorem zNL{ne:Bool}:pev (.nilF ne) [.sc .nilFunc]=some (.sc (.bool (!ne))):=rfl
@[simp] theorem zNM{ne:Bool}{a:Nat}{b c:List AV}:pev (.nilF ne) [.fn a b c]=some (.sc (.bool ne)):=rfl
@[simp] theorem zNX{b:Bool}:pev (.un .not) [.sc (.bool b)]=some (.sc (.bool (!b))):=rfl
@[simp] theorem zNJ{k:IntKind}{n:Int}:pev (.un .neg) [.sc (.int k n)]=some (.sc (.int k (k.wrap (0-n)))):=rfl
@[simp] theorem zN9{k b:IntKind}{n:Int}:pev (.toInt k) [.sc (.int b n)]=some (.sc (.int k (k.wrap n))):=rfl
@[simp] theorem zN7{s:ByteArray}:pev .sstr [.sc (.string s)]=some (.sc (.string s)):=rfl
@[simp] theorem zNs{off:Nat}{cs:List AV}:pev (.faddr off) [.iptr cs]=some (.iptr (cs.drop off)):=rfl
@[simp] theorem zNt{off id r c:Nat}:pev (.faddr off) [.ptr id r c]=some (.ptr id r (c+off)):=rfl
@[simp] theorem zNu{off r c:Nat}:pev (.faddr off) [.reg r c]=some (.reg r (c+off)):=rfl
@[simp] theorem zNB{s:ByteArray}:pev .lenS [.sc (.string s)]=some (.sc (.int .i64 s.size)):=rfl
@[simp] theorem zNA{s:Nat}{f:Bool}{xs:List (List AV)}:pev .lenL [.lst s f xs]=some (.sc (.int .i64 xs.length)):=rfl
@[simp] theorem ztb{s:Nat}{xs:List (List AV)}:pev .lenL [lstN s xs]=some (.sc (.int .i64 xs.length)):=rfl
@[simp] theorem zNz{a b c d:Nat}{e:Option Nat}:pev .lenL [.arr a b c d e]=some (.sc (.int .i64 d)):=rfl
@[simp] theorem zNV{a b c:Nat}:pev .nilchk [.ptr a b c]=some (.ptr a b c):=rfl
@[simp] theorem zNT{l:List AV}:pev .nilchk [.iptr l]=some (.iptr l):=rfl
@[simp] theorem zNW{a b:Nat}:pev .nilchk [.reg a b]=some (.reg a b):=rfl
@[simp] theorem zNU:pev .nilchk [.opq]=some .opq:=rfl
@[simp] theorem zNS{a:Nat}{b c:List AV}:pev .nilchk [.fn a b c]=some (.fn a b c):=rfl
@[simp] theorem zNr{i:Nat}{vs:List AV}:pev (.extract i) [.tup vs]=vs[i]?:=rfl
@[simp] theorem zNv{off sz:Nat}{agg:Bool}{cs:List AV}:pev (.field off sz agg) [.agg cs]=if off+sz<=cs.length then zaU agg ((cs.drop off).take sz)else none:=rfl
@[simp] theorem jl{z:List AV}{ps:List (Nat×Nat)}{vs:List AV}:pev (.build z ps) vs=(vc ps vs z).map .agg:=by
 cases vs<;>rfl
@[simp] theorem zNm{sz n:Nat}{z:List AV}{ps:List Nat}{vs:List AV}:pev (.buildSl sz n z ps) vs=if z.all AV.isCell then(zj sz ps vs (List.replicate n z)).map (.lst sz true)else none:=by
 cases vs<;>rfl
@[simp] theorem zta{sz:Nat}{xs:List (List AV)}{n:Int}(h:0<=n):pev (.iaddr sz) [lstN sz xs,.sc (.int .i64 n)]=(xs[n.toNat]?).map .iptr:=by
 unfold lstN;cases xs with
 |nil=>simp[pev]
 |cons x l=>simp[pev,h]
theorem zaX{sz:Nat}{f:Bool}{xs:List (List AV)}{n:Int}(h:0<=n):pev (.iaddr sz) [.lst sz f xs,.sc (.int .i64 n)]=(xs[n.toNat]?).map .iptr:=by simp[pev,h]
theorem zdW{sz id off len:Nat}{lim:Option Nat}{n:Int}(h:0<=n)(b:n<len):pev (.iaddr sz) [.arr id sz off len lim,.sc (.int .i64 n)]=some (.ptr id (off+n.toNat) 0):=by simp[pev,h,b]
@[simp] theorem zNF{k:IntKind}{a b:Int}:pev .min [.sc (.int k a),.sc (.int k b)]=some (.sc (.int k (min a b))):=by
 simp only[pev,ve,xam,xau,if_false];congr 3;rw[Int.min_def];split<;>split<;>omega
@[simp] theorem zNE{k:IntKind}{a b:Int}:pev .max [.sc (.int k a),.sc (.int k b)]=some (.sc (.int k (max a b))):=by
 simp only[pev,ve,xam,if_true];congr 3;rw[Int.max_def];split<;>split<;>omega
theorem zmp{s:ByteArray}{n:Int}(h:0<=n)(b:n<=s.size):pev (.sliceS false true) [.sc (.string s),.sc (.int .i64 n)]=some (.sc (.string (s.extract 0 n.toNat))):=by
 simp[pev,zM,h,b]
def zzQ(s:ByteArray)(n:Int):ByteArray:=s.extract 0 (min (s.size:Int) n).toNat
@[simp] theorem zNo{s:ByteArray}{n:Int}(h:0<=n):pev (.sliceS false true) [.sc (.string s),.sc (.int .i64 (min (s.size:Int) n))]=some (.sc (.string (zzQ s n))):=
 zmp (by omega) (by omega)
theorem zmq{s:ByteArray}{n:Int}(h:0<=n)(b:n<=s.size):pev (.sliceS true false) [.sc (.string s),.sc (.int .i64 n)]=some (.sc (.string (s.extract n.toNat s.size))):=by
 simp[pev,zM,h,b]
@[simp] theorem zNG{k n:Nat}{vs:List AV}:pev (.mkfn k n) vs=if vs.any AV.isReg then none else some (.fn k (vs.take n) (vs.drop n)):=by
 cases vs<;>rfl
attribute [simp] yW zaU
@[simp] theorem zNa{r c sz:Nat}{g:Bool}{d:Option Nat}{rg:Nat->Option (List AV)}{S:AS}:ze (.ld (some r) sz g) d rg S [.reg r c]=(rg r).bind fun cs=>(yW cs c sz g).map fun v=>(v,none,S):=by simp[ze]
@[simp] theorem zM9{sz:Nat}{g:Bool}{d:Option Nat}{rg:Nat->Option (List AV)}{S:AS}{cs:List AV}:ze (.ld none sz g) d rg S [.iptr cs]=(yW cs 0 sz g).map fun v=>(v,none,S):=rfl
theorem zY{id row c sz:Nat}{g:Bool}{d:Option Nat}{rg:Nat->Option (List AV)}{S:AS}{z:Nat}{rs:List (List AV)}(h:S.heap id=some (.rows z rs)):ze (.ld none sz g) d rg S [.ptr id row c]=(rs[row]?).bind fun cs=>(yW cs c sz g).map fun v=>(v,none,S):=by
 simp only[ze,h]
theorem zmj{id:Nat}{d:Option Nat}{rg:Nat->Option (List AV)}{S:AS}{es:List (Value×AV)}(h:S.heap id=some (.map es)):ze .lenM d rg S [.mp id]=some (.sc (.int .i64 es.length),none,S):=by
 simp only[ze,h]
@[simp] theorem zO5{rg:Nat->Option (List AV)}{t:Nat}{cs:List AV}:upd rg t cs t=some cs:=if_pos rfl
@[simp] theorem zM7{z:List AV}{t:Nat}{rg:Nat->Option (List AV)}{S:AS}:ze (.alloc .reg z) (some t) rg S []=if(rg t).isNone then some (.reg t 0,some (t,z),S)else none:=rfl
@[simp] theorem zM8{v:AV}{t:Nat}{rg:Nat->Option (List AV)}{S:AS}:ze (.box .reg) (some t) rg S [v]=if v.cells.all AV.isCell then(if(rg t).isNone then some (.reg t 0,some (t,v.cells),S)else none)else none:=by simp[ze]
@[simp] theorem zNb{r c sz:Nat}{v:AV}{d:Option Nat}{rg:Nat->Option (List AV)}{S:AS}:ze (.st (some r) sz) d rg S [.reg r c,v]=
 if v.cells.all AV.isCell/\v.cells.length=sz then(rg r).bind fun cs=>if c+sz<=cs.length then some (.junk,some (r,setCells cs c v.cells),S)else none else none:=by simp[ze]
end
section
variable{A:zA}{key:Nat}{f:za}{args args':List AV}{S:AS}
theorem zoD{g:List AV->AS->Option (AV×AS)}(b:A.ext key=some g)(c:args.any AV.isReg=false):yq A (run A) key args S=g args S:=by
 unfold yq;rw[if_neg (by rw[c];simp),b]
theorem zkC(b:A.ext key=none)(c:A.funcs key=some f)(d:A.mode key=.keep)(e:args.any AV.isReg=false)(g:args.length<=f.ntmps):
 yq A (run A) key args S=fin f.res (zH A f.body (st f.ntmps (ini args) (fun _=>none) S) []):=by
 unfold yq;rw[if_neg (by rw[e];simp),b];simp only[c,xae,d];exact zoS g
def zW(S:AS)(o:Option (AV×AS)):Option (AV×AS):=
 o.bind fun r=>(r.2.frzTo S.n 2 r.1).bind fun v=>if v.pure then some (v,S)else none
theorem zoC(b:A.ext key=none)(c:A.funcs key=some f)(d:A.mode key=.calm)(e:args.any AV.isReg=false)(g:yL args=args')(h:args'.length<=f.ntmps):
 yq A (run A) key args S=zW S (fin f.res (zH A f.body (st f.ntmps (ini args') (fun _=>none) {S with ro:=S.n}) [])):=by
 unfold yq;rw[if_neg (by rw[e];simp),b];simp only[c,xae,d];subst g;rw[zoS h];rfl
def AV.told(v:AV):Prop:=∀o,v.frz o=some v
@[simp] theorem zOJ{v:Value}:(AV.sc v).told:=fun _=>rfl
@[simp] theorem zOH:AV.opq.told:=fun _=>rfl
@[simp] theorem zOI{a b c:Nat}:(AV.ptr a b c).told:=fun _=>rfl
@[simp] theorem zOG{a:Nat}:(AV.mp a).told:=fun _=>rfl
end
theorem w64{n:Int}(h: -9223372036854775808<=n/\n<=9223372036854775807):IntKind.i64.wrap n=n:=by
 rw[Go.IntWalk.i64_left,Go.IntWalk.wrap64_in n h]
theorem zyu(m:Nat)(a:Int)(g:m<=62):IntKind.i64.wrap ((BitVec.ofInt IntKind.i64.bits a&&&BitVec.ofInt IntKind.i64.bits (2^m-1)).toNat)=a%2^m:=by
 have h:IntKind.i64.bits=64:=rfl;rw[h];have i:(BitVec.ofInt 64 (2^m-1)).toNat=2^m-1:=by
  have:((2:Int)^m-1)=((2^m-1:Nat):Int):=by
   have c:1<=2^m:=Nat.one_le_two_pow;rw[Int.natCast_sub c,Int.natCast_pow];rfl
  rw[this,BitVec.ofInt_natCast,BitVec.toNat_ofNat];apply Nat.mod_eq_of_lt;have:2^m<2^64:=Nat.pow_lt_pow_right (by omega) (by omega);omega
 rw[BitVec.toNat_and,i,Nat.and_two_pow_sub_one_eq_mod,BitVec.toNat_ofInt];have b:2^m<=2^62:=Nat.pow_le_pow_right (by omega) g;have d:0<2^m:=Nat.two_pow_pos m;have e:(((a%((2^64:Nat):Int)).toNat%2^m:Nat):Int)=a%2^m:=by
  rw[Int.natCast_emod,Int.toNat_of_nonneg (Int.emod_nonneg _ (by decide))];have j:((2^m:Nat):Int) ∣ ((2^64:Nat):Int):=by
   rw[Int.natCast_dvd_natCast];exact Nat.pow_dvd_pow 2 (by omega)
  rw[Int.emod_emod_of_dvd _ j]
  norm_cast
 rw[e];apply w64;have c:=Int.emod_nonneg a (show((2:Int)^m)≠0 by have:(0:Int)<2^m:=Int.pow_pos (by omega);omega);have k:=Int.emod_lt_of_pos a (show(0:Int)<2^m from Int.pow_pos (by omega));have l:(2:Int)^m<=2^62:=by exact_mod_cast b
 constructor
 ·omega
 ·have:(2:Int)^62=4611686018427387904:=by decide
  omega
theorem zaW{m:Nat}{a:Int}(b:m<=62):pev (.bin .and) [.sc (.int .i64 a),.sc (.int .i64 (2^m-1))]=some (.sc (.int .i64 (a%2^m))):=by
 rw[zGv,zyu m a b]
@[simp high] theorem zNk{a:Int}:pev (.bin .and) [.sc (.int .i64 a),.sc (.int .i64 7)]=some (.sc (.int .i64 (a%8))):=zaW (m:=3) (by omega)
@[simp high] theorem zs7{a:Int}:pev (.bin .and) [.sc (.int .i64 a),.sc (.int .i64 15)]=some (.sc (.int .i64 (a%16))):=zaW (m:=4) (by omega)
@[simp high] theorem zGw{a:Int}:pev (.bin .and) [.sc (.int .i64 a),.sc (.int .i64 31)]=some (.sc (.int .i64 (a%32))):=zaW (m:=5) (by omega)
@[simp high] theorem zNj{a:Int}:pev (.bin .and) [.sc (.int .i64 a),.sc (.int .i64 63)]=some (.sc (.int .i64 (a%64))):=zaW (m:=6) (by omega)
@[simp high] theorem zNg{a:Int}:pev (.bin .and) [.sc (.int .i64 a),.sc (.int .i64 1023)]=some (.sc (.int .i64 (a%1024))):=zaW (m:=10) (by omega)
@[simp high] theorem zNh{a:Int}:pev (.bin .and) [.sc (.int .i64 a),.sc (.int .i64 2047)]=some (.sc (.int .i64 (a%2048))):=zaW (m:=11) (by omega)
@[simp high] theorem zNl{a:Int}:pev (.bin .and) [.sc (.int .i64 a),.sc (.int .i64 65535)]=some (.sc (.int .i64 (a%65536))):=zaW (m:=16) (by omega)
@[simp high] theorem zNi{a:Int}:pev (.bin .and) [.sc (.int .i64 a),.sc (.int .i64 1099511627775)]=some (.sc (.int .i64 (a%1099511627776))):=zaW (m:=40) (by omega)
section
variable{A:zA}
def zbu(rgs:List Nat)(rg:Nat->Option (List AV)):Nat->Option (List AV):=fun r=>if rgs.contains r then none else rg r
@[simp] theorem zLZ{rgs:List Nat}:zbu rgs (fun _=>none)=fun _=>none:=by
 funext r;unfold zbu;split<;>rfl
def Tru(o:Option (AV×AS)):Prop:=∃S',o=some (.sc (.bool true),S')
@[simp] theorem zOK{b:Bool}{S:AS}:Tru (some (.sc (.bool b),S))↔b=true:=by
 cases b<;>simp[Tru]
structure zj1(S:AS)(id sz:Nat)(rs:List (List AV)):Prop where
 h:S.heap id=some (.rows sz rs)
 ro:S.ro<=id
 lt:id<S.n
theorem zsT{S:AS}{id sz bytes:Nat}{d:Option Nat}{rg:Nat->Option (List AV)}{rs ys:List (List AV)}(h:zj1 S id sz rs)(b:ys≠[])(c:(rs.length+ys.length)*bytes<=140737488355328):
 ze (.append sz bytes) d rg S [.arr id sz 0 rs.length none,.lst sz true ys]=some (.arr S.n sz 0 (rs.length+ys.length) none,none,(S.set id none).new (.rows sz (rs++ys))):=by
 cases ys with
 |nil=>exact absurd rfl b
 |cons y ys=>
  simp only[ze,zD,beq_self_eq_true,Bool.true_or,if_true,decide_true,xae,jq,List.isEmpty_cons,xau,if_false,h.h];have e:=h.ro;rw[if_neg (by simp;omega)];rw[if_neg (by simp),if_pos ⟨trivial,c⟩];simp
end
mutual
inductive wR(P:Program):TypeId->List AV->Prop
 |bool{t:TypeId}{b:Bool}(h:P.underlying t=some .bool):wR P t [.sc (.bool b)]
 |int{t:TypeId}{k:IntKind}{n:Int}(h:P.underlying t=some (.int k))(hw:(Lit.int k n).wf=true):wR P t [.sc (.int k n)]
 |str{t:TypeId}{s:ByteArray}(h:P.underlying t=some .string)(hs:s.size<=maxLen):wR P t [.sc (.string s)]
 |slice{t e:TypeId}{xs:List (List AV)}(h:P.underlying t=some (.slice e))(hl:xs.length<=maxLen)(hx:zeq P e xs):wR P t [lstN (P.cellsOf e) xs]
 |struct{t:TypeId}{fs:Array Field}{as:List AV}(h:P.underlying t=some (.struct fs))(hf:zep P fs.toList as):wR P t as
inductive zep(P:Program):List Field->List AV->Prop
 |nil:zep P [] []
 |cons{f:Field}{fs:List Field}{a l:List AV}(h:wR P f.type a)(ht:zep P fs l):zep P (f::fs) (a++l)
inductive zeq(P:Program):TypeId->List (List AV)->Prop
 |nil{e:TypeId}:zeq P e []
 |cons{e:TypeId}{r:List AV}{rs:List (List AV)}(h:wR P e r)(ht:zeq P e rs):zeq P e (r::rs)
end
mutual
inductive Rd{H:Type}(P:Program):TypeId->DataW H->List AV->Prop
 |bool{t:TypeId}{b:Bool}(h:P.underlying t=some .bool):Rd P t (.lit (.bool b)) [.sc (.bool b)]
 |int{t:TypeId}{k:IntKind}{n:Int}(h:P.underlying t=some (.int k))(hw:(Lit.int k n).wf=true):Rd P t (.lit (.int k n)) [.sc (.int k n)]
 |str{t:TypeId}{s:ByteArray}(h:P.underlying t=some .string)(hs:s.size<=maxLen):Rd P t (.lit (.string s.data.toList)) [.sc (.string s)]
 |nil{t e:TypeId}(h:P.underlying t=some (.slice e)):Rd P t .nil [lstN (P.cellsOf e) []]
 |slice{t e:TypeId}{xs:List (List AV)}{ds rest:List (DataW H)}(h:P.underlying t=some (.slice e))(hl:xs.length<=maxLen)(hx:RdR P e ds xs):Rd P t (.slice ds rest) [lstN (P.cellsOf e) xs]
 |struct{t:TypeId}{fs:Array Field}{as:List AV}{ds:List (DataW H)}(h:P.underlying t=some (.struct fs))(hf:RdF P fs.toList ds as):Rd P t (.agg ds) as
inductive RdF{H:Type}(P:Program):List Field->List (DataW H)->List AV->Prop
 |nil:RdF P [] [] []
 |cons{f:Field}{fs:List Field}{d:DataW H}{ds:List (DataW H)}{a l:List AV}(h:Rd P f.type d a)(ht:RdF P fs ds l):RdF P (f::fs) (d::ds) (a++l)
inductive RdR{H:Type}(P:Program):TypeId->List (DataW H)->List (List AV)->Prop
 |nil{e:TypeId}:RdR P e [] []
 |cons{e:TypeId}{d:DataW H}{ds:List (DataW H)}{r:List AV}{rs:List (List AV)}(h:Rd P e d r)(ht:RdR P e ds rs):RdR P e (d::ds) (r::rs)
end
def za9(P:Program)(L:List TypeId):List Field->Nat->Option Nat
 |[],o=>some o
 |f::fs,o=>if f.offset=o/\L.contains f.type=true then za9 P L fs (o+P.cellsOf f.type)else none
def zfN(P:Program)(L:List TypeId):Bool:=L.all fun t=>
 match P.underlying t with
 |some .bool|some (.int _)|some .string=>P.cellsOf t==1
 |some (.slice e)=>P.cellsOf t==1&&L.contains e&&decide (0<P.cellsOf e)
 |some (.struct fs)=>za9 P L fs.toList 0==some (P.cellsOf t)
 |_=>false
section
variable{H:Type}{enc:TypeId×Value->H}{P:Program}{w:World}{G:Gh}{spare:Nat->Bool}{held:Bool}
theorem znR{b off m:Nat}:(⟨b,off,none⟩:Addr).add m=⟨b,off+m,none⟩:=by
 unfold Addr.add;split
 ·rename_i h;subst h;rfl
 ·rfl
theorem zjh{α β:Type}{f:α->Option β}:∀{l:List α} {m:List β},l.mapM f=some m->m.length=l.length/\∀(i:Nat) (x:α),l[i]?=some x->∃y,m[i]?=some y/\f x=some y
 |[],m,h=>by simp at h;subst h;simp
 |a::l,m,h=>by
  rw[List.mapM_cons]at h;simp only[bind,xaa]at h;obtain⟨b,d,o,e,h⟩:=h;cases h;obtain⟨g,j⟩:=zjh e;refine⟨by simp[g],fun i x c=>?_⟩;cases i with
  |zero=>simp at c;subst c;exact⟨b,by simp,d⟩
  |succ i=>simp at c;obtain⟨y,k,n⟩:=j i x c;exact⟨y,by simp[k],n⟩
theorem zzx{b off n:Nat}{cs:List Value}(h:w.cells? 0 ⟨b,off,none⟩ n=some cs):cs.length=n/\∀i v,cs[i]?=some v->w.cell? ⟨b,off+i,none⟩=some v:=by
 unfold World.cells? at h;rw[if_pos (Nat.zero_le _)]at h;obtain⟨c,k⟩:=zjh h;simp only[List.length_range]at c;refine⟨c,fun i v d=>?_⟩;have l:i<n:=by
  rw[<-c];by_cases e:i<cs.length
  ·exact e
  ·rw[xap (by omega)]at d;cases d
 obtain⟨y,g,j⟩:=k i i (by simp[l]);rw[d]at g;cases g;rw[znR]at j;exact j
theorem zzz{a:Addr}{n:Nat}{cs:List Value}(c:0<n)(h:w.cells? 0 a n=some cs):a.spot=none:=by
 unfold World.cells? at h;rw[if_pos (Nat.zero_le _)]at h;obtain⟨_,d⟩:=zjh h;obtain⟨y,_,b⟩:=d 0 0 (by simp[c]);have b:w.cell? a=some y:=b;exact World.cell?_spot b
theorem zmu{L:List TypeId}(Y:zfN P L=true)(Z:∀b o v,w.cell? ⟨b,o,none⟩=some v->G.P b o):∀(fuel:Nat) (t:TypeId) (cs:List Value) (d:DataW H) (ps:List MemPlace),L.contains t=true->DataW.trod enc P w 0 spare held fuel t cs=some (d,ps)->
 ∃as,zx G w as cs/\(wR P t as/\Rd P t d as)/\cs.length=P.cellsOf t/\∀u∈cs,u.oneCell'=true
 |0,_,_,_,_,_,h=>by simp[DataW.trod]at h
 |fuel+1,t,cs,d,ps,ht,h=>by
  have hT:=Y;simp only[zfN,List.all_eq_true]at hT;have hT:=hT t (by simpa using ht);unfold DataW.trod at h;split at h
  ·rename_i b c;simp only[c,beq_iff_eq]at hT;cases h;exact⟨_,.cons (.sc rfl) .nil,⟨.bool c,.bool c⟩,hT.symm,by simp[Value.oneCell']⟩
  ·rename_i k k' n c;simp only[c,beq_iff_eq]at hT;split at h
   ·rename_i N;obtain⟨rfl,hw⟩:=N;cases h;exact⟨_,.cons (.sc rfl) .nil,⟨.int c hw,.int c hw⟩,hT.symm,by simp[Value.oneCell']⟩
   ·cases h
  ·rename_i c;simp[c]at hT
  ·rename_i s c;simp only[c,beq_iff_eq]at hT;split at h
   ·rename_i N;cases h;exact⟨_,.cons (.sc rfl) .nil,⟨.str c N,.str c N⟩,hT.symm,by simp[Value.oneCell']⟩
   ·cases h
  ·rename_i c;simp[c]at hT
  ·rename_i c;simp[c]at hT
  ·rename_i e c;simp only[c,xab,beq_iff_eq]at hT;cases h;exact⟨[lstN (P.cellsOf e) []],.cons (.nil (by simp)) .nil,⟨.slice c (by simp[maxLen]) .nil,.nil c⟩,hT.1.1.symm,by simp[Value.oneCell']⟩
  ·rename_i e a len cap c;simp only[c,xab,beq_iff_eq,decide_eq_true_eq]at hT;obtain⟨⟨h1,he⟩,h0⟩:=hT;dsimp only at h;split at h
   ·rename_i N;simp only[xaa]at h;obtain⟨q,r,J⟩:=h;simp only[xaf]at J;obtain⟨rest,_,J⟩:=J;cases J;have rows:∀(b off k n:Nat) (ys:List (DataW H×List MemPlace)),((List.range' k n).mapM fun i=>(w.cells? 0 ((⟨b,off,none⟩:Addr).add (i*P.cellsOf e)) (P.cellsOf e)).bind (DataW.trod enc P w 0 spare held fuel e))=some ys->
     ∃xs vs,zK G w (P.cellsOf e) xs vs/\(zeq P e xs/\RdR P e (ys.map (·.1)) xs)/\xs.length=n/\At G w b (off+k*P.cellsOf e) vs.flatten:=by
     intro b off k n
     induction n generalizing k with
     |zero=>intro ys g;simp at g;subst g;exact⟨[],[],.nil,⟨.nil,.nil⟩,rfl,fun i v M=>by simp at M⟩
     |succ n ih=>
      intro ys g;rw[List.range'_succ,List.mapM_cons]at g;simp only[bind,xaa]at g;obtain⟨y,⟨cs',O,x⟩,z,m,B⟩:=g;cases B;obtain⟨xs,vs,C,p,E,U⟩:=ih (k+1) z m;rw[znR]at O;obtain⟨ae,F⟩:=zzx O;obtain⟨as,V,Q,q3,q4⟩:=zmu Y Z fuel e cs' _ _ he x;refine⟨as::xs,cs'::vs,.cons V (by rw[V.length];exact q3) q4 C,⟨.cons Q.1 p.1,.cons Q.2 p.2⟩,by simp[E],?_⟩;intro i v M;rw[List.flatten_cons,List.getElem?_append]at M;split at M
      ·have:=F i v M;exact⟨Z _ _ _ this,this⟩
      ·rename_i hi;obtain⟨p1,p2⟩:=U _ v M;have W:off+(k+1)*P.cellsOf e+(i-cs'.length)=off+k*P.cellsOf e+i:=by
        rw[Nat.add_mul];omega
       rw[W]at p1 p2;exact⟨p1,p2⟩
    by_cases aa:len=0
    ·subst aa;simp at r;subst r;exact⟨[lstN (P.cellsOf e) []],.cons (.nil (by simp)) .nil,⟨.slice c (by simp[maxLen]) .nil,.slice c (by simp[maxLen]) .nil⟩,h1.symm,by simp[Value.oneCell']⟩
    ·have j:a.spot=none:=by
      obtain⟨_,h2⟩:=zjh r;have ab:(List.range len)[0]?=some 0:=by rw[List.getElem?_range (by omega)]
      obtain⟨y,_,h4⟩:=h2 0 0 ab;have h4:(w.cells? 0 (a.add (0*P.cellsOf e)) (P.cellsOf e)).bind (DataW.trod enc P w 0 spare held fuel e)=some y:=h4;obtain⟨cs',X,_⟩:=xaa.1 h4;rw[Nat.zero_mul]at X;have X:w.cells? 0 a (P.cellsOf e)=some cs':=X;exact zzz h0 X
     obtain⟨b,off,T⟩:=a;have j:T=none:=j;subst j;rw[List.range_eq_range']at r;obtain⟨xs,vs,C,p,E,U⟩:=rows b off 0 len q r;rw[Nat.zero_mul,Nat.add_zero]at U;exact⟨[lstN (P.cellsOf e) xs],.cons (Rep.lstN (.lst (full:=false) E.symm (by omega) (by simp) U C)) .nil,⟨.slice c (by omega) p.1,.slice c (by omega) p.2⟩,h1.symm,by simp[Value.oneCell']⟩
   ·cases h
  ·rename_i fs c;rename_i cs _ _;simp only[c,beq_iff_eq]at hT;split at h
   ·rename_i ac;simp only[xaf]at h;obtain⟨xs,r,J⟩:=h;cases J;have go:∀(I:List Field) (o:Nat) (ys:List (DataW H×List MemPlace)),za9 P L I o=some (P.cellsOf t)->(I.mapM fun f=>DataW.trod enc P w 0 spare held fuel f.type ((cs.drop f.offset).take (P.cellsOf f.type)))=some ys->
     ∃as,zx G w as (cs.drop o)/\(zep P I as/\RdF P I (ys.map (·.1)) as)/\∀u∈cs.drop o,u.oneCell'=true:=by
     intro I
     induction I with
     |nil=>
      intro o ys l g;simp at g;subst g;simp only[za9,Option.some.injEq]at l;refine⟨[],?_,⟨.nil,.nil⟩,?_⟩
      ·rw[xaB (by omega)];exact .nil
      ·rw[xaB (by omega)];simp
     |cons f I ih=>
      intro o ys l g;simp only[za9]at l;split at l
      ·rename_i hf;obtain⟨rfl,hf⟩:=hf;rw[List.mapM_cons]at g;simp only[bind,xaa]at g;obtain⟨y,x,z,m,B⟩:=g;cases B;obtain⟨as,V,Q,q3,q4⟩:=zmu Y Z fuel f.type _ _ _ hf x;obtain⟨ad,C,p,E⟩:=ih _ z l m;have W:cs.drop f.offset=(cs.drop f.offset).take (P.cellsOf f.type)++cs.drop (f.offset+P.cellsOf f.type):=by
        rw[<-List.drop_drop,List.take_append_drop]
       refine⟨as++ad,?_,⟨.cons Q.1 p.1,.cons Q.2 p.2⟩,?_⟩
       ·rw[W];exact V.append C
       ·rw[W];intro u c;rcases xaE.1 c with c|c
        ·exact q4 u c
        ·exact E u c
      ·cases l
    obtain⟨as,C,p,E⟩:=go fs.toList 0 xs hT r;exact⟨as,by simpa using C,⟨.struct c p.1,.struct c p.2⟩,ac,by simpa using E⟩
   ·cases h
  all_goals
   rename_i c
   first
    |(simp[c]at hT;done)
    |cases h
end
end Abs
namespace Abs
open Go Go.RowKit
def wu(P:Program)(t:TypeId)(as:List AV):AV:=match P.underlying t with|some (.struct _)=>.agg as|_=>as.headD .junk
inductive zeo(P:Program):List TypeId->List AV->Prop
 |nil:zeo P [] []
 |cons{t:TypeId}{as:List AV}{ts:List TypeId}{l:List AV}(h:wR P t as)(r:zeo P ts l):zeo P (t::ts) (wu P t as::l)
inductive kO{H:Type}(P:Program):List TypeId->List (DataW H)->List AV->Prop
 |nil:kO P [] [] []
 |cons{t:TypeId}{d:DataW H}{ds:List (DataW H)}{as:List AV}{ts:List TypeId}{l:List AV}(h:Rd P t d as)(r:kO P ts ds l):kO P (t::ts) (d::ds) (wu P t as::l)
def S0:AS:={heap:=fun _=>none,n:=0,ro:=0}
def G0(K:Nat->Option Nat)(w:World):Gh:={ι:=fun _=>none,P:=fun b _=>b<w.heap.size,K}
section
variable{H:Type}{enc:TypeId×Value->H}{P:Program}{w:World}{spare:Nat->Bool}{held:Bool}{K:Nat->Option Nat}
theorem zJS:Sim (G0 K w) S0 w where
 obj:=fun id o e=>by cases e
 fresh:=fun id _=>⟨rfl,rfl⟩
 inj:=fun _ _ _ _ _ _ e=>by cases e
 own:=fun _ _ _ _ _ e=>by cases e
 lt:=fun _ _ h=>h
 ro:=xad _
theorem wr0{b:Nat}:¬Wr (G0 K w) S0 b:=by
 rintro⟨_,_,_,_,e,_⟩;cases e
theorem zgt{w:World}{b o:Nat}{v:Value}(h:w.cell? ⟨b,o,none⟩=some v):b<w.heap.size:=by
 unfold World.cell? at h;split at h
 ·rename_i c t f d;exact j0 d
 ·cases h
theorem zyG{G:Gh}{t:TypeId}{v:Value}{as:List AV}{base:Nat}(c:Value.okWide P w .any base t v)(j:zx G w as v.cells.toList)(q:wR P t as):Rep G w (wu P t as) v:=by
 have one:∀(h:v.cells=#[v]) (x:AV),as=[x]->Rep G w x v:=by
  intro h x p;rw[h,p]at j;cases j with
  |cons k _=>exact k
 have g:∀{d:TypeDesc},P.underlying t=some d->(∀fs,d≠.struct fs)->(∀n e,d≠.array n e)->Cell.okWide P w .any base t v:=by
  intro d l k m;unfold Value.okWide at c;rw[l]at c;split at c
  ·rename_i fs o;cases o;exact absurd rfl (k _)
  ·rename_i n e o;cases o;exact absurd rfl (m _ _)
  ·exact c
 have b:∀{d:TypeDesc},P.underlying t=some d->(∀fs,d≠.struct fs)->(∀n e,d≠.array n e)->(∀cs,¬Cell.okWide P w .any base t (.agg cs))->v.cells=#[v]:=by
  intro d l k m r;have:=g l k m;cases v with
  |agg cs=>exact absurd this (r cs)
  |_=>rfl
 cases q with
 |bool h=>
  refine ?_;unfold wu;rw[h];exact one (b h (by simp) (by simp) (by intro cs i;simp[Cell.okWide,Cell.ok,h]at i)) _ rfl
 |int h hw=>
  unfold wu;rw[h];exact one (b h (by simp) (by simp) (by intro cs i;simp[Cell.okWide,Cell.ok,h]at i)) _ rfl
 |str h hs=>
  unfold wu;rw[h];exact one (b h (by simp) (by simp) (by intro cs i;simp[Cell.okWide,Cell.ok,h]at i)) _ rfl
 |slice h hl p=>
  unfold wu;rw[h];exact one (b h (by simp) (by simp) (by intro cs i;simp[Cell.okWide,Cell.ok,h]at i)) _ rfl
 |struct h hf=>
  unfold wu;rw[h];unfold Value.okWide at c;rw[h]at c;obtain⟨cs,rfl,_⟩:=c;have j:zx G w as cs.toList:=j;have:=Rep.agg j;simpa using this
theorem znV{base:Nat}{L:List TypeId}(g:zfN P L=true):∀{params:List TypeId} {args:List Value} {ds:List (DataW H)} {ps:List MemPlace},(∀t∈params,L.contains t=true)->DataW.TrodAll enc P w 0 spare held params args ds ps->
 (∀(j:Nat) (t:TypeId) (v:Value),params[j]?=some t->args[j]?=some v->Value.okWide P w .any base t v)->∃c,zx (G0 K w) w c args/\zeo P params c/\kO P params ds c
 |[],[],[],_,_,_,_=>⟨[],.nil,.nil,.nil⟩
 |t::ts,v::vs,d::ds,_,hp,⟨p,q,⟨fuel,h1⟩,h2,_⟩,hok=>by
  obtain⟨as,i,e,s,u⟩:=zmu (G:=G0 K w) g (fun b o v h=>zgt h) fuel t _ _ _ (hp t (by simp)) h1;obtain⟨c,k,l,m⟩:=znV g (params:=ts) (fun t h=>hp t (by simp[h])) h2 (fun j t v n r=>hok (j+1) t v (by simpa using n) (by simpa using r));exact⟨_,.cons (zyG (hok 0 t v rfl rfl) i e.1) k,.cons e.1 l,.cons e.2 m⟩
 |[],_::_,_,_,_,h,_=>by cases h
 |_::_,[],_,_,_,h,_=>by cases h
 |[],[],_::_,_,_,h,_=>by cases h
 |_::_,_::_,[],_,_,h,_=>by cases h
theorem zu3(e:laidOutB P=true){W g:World}(i:Below W.heap.size W g):∀{ts:List TypeId} {vs:List Value} {ds:List (DataW H)} {ps:List MemPlace},(∀t∈ts,P.readableRec t=true/\t<P.types.size)->
 DataW.TrodAll enc P W 0 (fun _=>true) true ts vs ds ps->DataW.TrodAll enc P g 0 (fun b=>decide (b<W.heap.size)) true ts vs ds ps
 |[],[],[],_,_,h=>h
 |t::ts,v::vs,d::ds,ps,hr,h=>by
  have c:=h.lt;obtain⟨p,q,j,k,rfl⟩:=h;obtain⟨l,m⟩:=hr t (by simp);exact⟨p,q,Below.trod e l m j i (fun x n=>c x (by simp[n])),zu3 e i (fun t o=>hr t (by simp[o])) k,rfl⟩
 |[],_::_,_,_,_,h=>by cases h
 |_::_,[],_,_,_,h=>by cases h
 |[],[],_::_,_,_,h=>by cases h
 |_::_,_::_,[],_,_,h=>by cases h
theorem zy2{A:zA}{W c:World}{r:AV}{S':AS}{v:Value}(h:kq (G0 K W) S0 W r S' (.returned v) c):Below W.heap.size W c:=by
 obtain⟨g,G',e,_,_,b,_⟩:=h;refine⟨b.io.os,b.io.tape,b.io.out,b.size,fun k d=>b.keep k d ?_⟩;rintro(h|h)
 ·omega
 ·exact wr0 h
theorem zBU{A:zA}{f key:Nat}{fn:Func}{s:ChangeSpec}{fresh b:Bool}{L:List TypeId}(Q:Ok P A K)(T:K key=some f)
 (U:laidOutB P=true) (V:zfN P L=true) (hp:∀t∈fn.params.toList,L.contains t=true/\P.readableRec t=true/\t<P.types.size) {J:TypeId} (k:fn.resultTypes=#[J]) (r:P.underlying J=some .bool)
 (M:s.vars=[]) (u:∀ds:List (DataW H),ds.length=fn.params.size->(s.fn H ds).results=[.lit (.bool true)]/\(s.fn H ds).args=ds/\(s.fn H ds).vars=[])
 {W:World} (x:qW A (G0 K W) W) {base:Nat} {args:Array Value} {ds X:List (DataW H)} {g:List MemPlace}
 (l:∀c,zeo P fn.params.toList c->kO P fn.params.toList ds c->∃S',yq A (run A) key c S0=some (.sc (.bool true),S'))
 (y:∀(j:Nat) t v,fn.params[j]?=some t->args[j]?=some v->Value.okWide P W .any base t v) (N:DataW.Whole enc P fn.params.toList s.vars false W args.toList ds X g):
 Calls P f args W fun e z=>∃v,e=.returned v/\s.post enc P fn false fresh b false W args v z:=by
 have m:=N;obtain⟨p,q,B,o,rfl,_,_⟩:=N;rw[M]at o;obtain⟨rfl,rfl⟩:=Go.ChangeShapes.trodVars_none o;obtain⟨c,Y,Z,r3⟩:=znV (K:=K) V (fun t C=>(hp t C).1) B (fun j t v hj E=>y j t v (by simpa using hj) (by simpa using E));obtain⟨S',hc⟩:=l c Z r3;have d:=zzu Q (G:=G0 K W) rfl T zJS x Y hc;rw[Array.toArray_toList]at d;refine d.mono ?_;rintro e z ⟨v,G',rfl,i,F,hx,I⟩;have O:Below W.heap.size W z:=zy2 (A:=A) ⟨v,G',rfl,i,F,hx,I⟩;cases i;have n:ds.length=fn.params.size:=by
  have:∀{ts:List TypeId} {vs:List Value} {ds:List (DataW H)} {ps:List MemPlace},DataW.TrodAll enc P W 0 (fun _=>true) true ts vs ds ps->ds.length=ts.length:=by
   intro ts
   induction ts with
   |nil=>intro vs ds ps h;cases vs<;>cases ds<;>first|rfl|cases h
   |cons t ts ih=>
    intro vs ds ps h;cases vs<;>cases ds<;>first|cases h;done|(obtain⟨_,_,_,o,_⟩:=h;simp[ih o])
  simpa using this B
 obtain⟨e1,e2,e3⟩:=u ds n;simp only[List.append_nil]at m;refine⟨_,rfl,ds,[],p,[],p,[],?_,?_,?_,?_,O.frame _,fun h=>by cases h⟩
 ·exact m
 ·rw[List.append_nil,e1,k];refine⟨[],[],⟨1,?_⟩,rfl,rfl⟩;simp[DataW.trod,r,Value.cells]
 ·rw[List.append_nil,e2];exact zu3 U O (fun t C=>(hp t C).2) B
 ·rw[List.append_nil,e3,M];rfl
end
section
variable{P:Program}{t:TypeId}{as:List AV}
theorem zyF{d:TypeDesc}(b:P.underlying t=some d)(c:(match d with| .struct _=>true|_=>false)=false){v:AV}:wu P t [v]=v:=by
 unfold wu;rw[b];cases d<;>first|rfl|cases c
theorem i64_in{n:Int}(h:(Lit.int .i64 n).wf=true): -9223372036854775808<=n/\n<=9223372036854775807:=by
 simp only[Lit.wf,xab,decide_eq_true_eq]at h;have b:IntKind.i64.min= -9223372036854775808:=by decide
 have c:IntKind.i64.max=9223372036854775807:=by decide
 rw[b,c]at h;exact h
end
end Abs
