/- Calls of the program AA; loops; what a call gives back. -/
import Derived.Test.YtdiebjbepfjjfaaGreatDoorPr
import Derived.Test.YtdiebjbepfjjfaaGreatDoorE4
set_option maxHeartbeats 16000000
set_option maxRecDepth 100000
set_option linter.unusedVariables false
set_option linter.unusedSimpArgs false
set_option linter.unusedSectionVars false
namespace Abs
open Go
abbrev znE(k:Nat)(f:za):Prop:=AA.ext k=none/\AA.funcs k=some f/\AA.mode k=.calm
abbrev zvk(k:Nat)(f:za):Prop:=AA.ext k=none/\AA.funcs k=some f/\AA.mode k=.keep
section
variable{S:AS}{k:Nat}{f:za}{args:List AV}
theorem zi(h:znE k f)(a:args.any AV.isReg=false)(c:yL args=args)(e:Nat.ble args.length f.ntmps=true):
 call k args S=zW S (fin f.res (zH AA f.body (st f.ntmps (ini args) (fun _=>none) {S with ro:=S.n}) [])):=
 zoC h.1 h.2.1 h.2.2 a c (Nat.le_of_ble_eq_true e)
theorem kr(h:znE k f){args':List AV}(a:args.any AV.isReg=false)(c:yL args=args')(e:Nat.ble args'.length f.ntmps=true):
 call k args S=zW S (fin f.res (zH AA f.body (st f.ntmps (ini args') (fun _=>none) {S with ro:=S.n}) [])):=
 zoC h.1 h.2.1 h.2.2 a c (Nat.le_of_ble_eq_true e)
theorem z8(h:zvk k f)(a:args.any AV.isReg=false)(c:Nat.ble args.length f.ntmps=true):
 call k args S=fin f.res (zH AA f.body (st f.ntmps (ini args) (fun _=>none) S) []):=
 zkC h.1 h.2.1 h.2.2 a (Nat.le_of_ble_eq_true c)
theorem zbh{g:List AV->AS->Option (AV×AS)}(h:AA.ext k=some g)(a:args.any AV.isReg=false):call k args S=g args S:=zoD h a
theorem zg{S S':AS}{v:AV}:zW S (some (v,S'))=(S'.frzTo S.n 2 v).bind fun v=>if v.pure then some (v,S)else none:=rfl
theorem y8{α:Type}{tm:List Nat}{c:ACode}{N:Nat}{ks:List Kn}{g:List vi}(i:α->(Nat->AV)->(Nat->Option (List AV))->AS->Prop)(μ:α->Nat){R:α->Option (AV×AS)->Prop}
 (h:∀(m:List Kn),m=.loop tm [] c::ks->∀a e rg S,i a e rg S->(∀a' l j S',μ a'<μ a->(∀r,R a' r->R a r)->i a' l j S'->R a (fin g (unw AA (some (.normal,st N l j S')) m)))->R a (fin g (zH AA c (st N (fgt tm e) rg S) m))):
 ∀a e rg S,i a e rg S->R a (fin g (zH AA (.loop tm [] c) (st N e rg S) ks)):=by
 have key:∀n a,μ a=n->∀e rg S,i a e rg S->R a (fin g (zH AA (.loop tm [] c) (st N e rg S) ks)):=by
  intro n
  induction n using Nat.strongRecOn with
  |_ n ih=>
   intro a s e rg S o;rw[jG];refine h _ rfl a e rg S o fun a' l j S' p t q=>?_;rw[vR];exact t _ (ih (μ a') (s▸p) a' rfl l j S' q)
 exact fun a e rg S o=>key _ a rfl e rg S o
def okR(rgs:List Nat):AV->Bool
 | .reg r _=>!rgs.contains r
 |_=>true
def NQ(tm rgs:List Nat)(e:Nat->AV):Prop:=∀n,(tm.contains n||okR rgs (e n))=true
theorem zF2{rgs:List Nat}{v:AV}(h:v.isReg=false):okR rgs v=true:=by cases v<;>first|rfl|(simp[AV.isReg]at h)
theorem vC{tm rgs:List Nat}{e:Nat->AV}{d:Nat}{v:AV}(h:NQ tm rgs e)(a:(tm.contains d||okR rgs v)=true):NQ tm rgs (put e d v):=by
 intro n;rw[zn];split
 ·rename_i c;subst c;exact a
 ·exact h n
theorem zcM{tm rgs:List Nat}{e:Nat->AV}(h:NQ tm rgs e):NQ tm rgs (fgt tm e):=by
 intro n;rw[zlC];split
 ·rename_i a;rw[a];rfl
 ·exact h n
theorem zan{tm rgs:List Nat}{args:List AV}(h:args.any AV.isReg=false):NQ tm rgs (ini args):=by
 intro n;unfold ini;rw[xar];cases a:args[n]? with
 |none=>simp[okR]
 |some v=>
  rw[List.any_eq_false]at h;have:=h v (xaj a);simp[zF2 (rgs:=rgs) (by simpa using this)]
theorem zAE{tm rgs:List Nat}{N:Nat}{e:Nat->AV}{rg:Nat->Option (List AV)}{S:AS}(h:NQ tm rgs e):wF tm rgs (st N e rg S)=some (st N (fgt tm e) (zbu rgs rg) S):=by
 unfold wF st;have q:((je N e).zipIdx.map fun p=>if tm.contains p.2 then AV.junk else p.1)=je N (fgt tm e):=by
  apply List.ext_getElem?;intro i;unfold je fgt;rw[xat,List.getElem?_zipIdx,xat,xat];by_cases m:i<N
  ·rw[List.getElem?_range m];simp
  ·rw[xap (by simpa using m)];rfl
 simp only;rw[q];refine(if_neg fun s=>?_).trans rfl;obtain⟨x,g,a⟩:=List.any_eq_true.1 s;unfold je at g;obtain⟨n,_,rfl⟩:=List.mem_map.1 g;rw[zlC]at a;by_cases j:tm.contains n=true
 ·rw[if_pos j]at a;simp at a
 ·rw[if_neg j]at a;have:=h n;cases o:e n with
  |reg r c=>
   rw[o]at a this;simp only[okR]at this;simp at a j this;rcases this with l|l
   ·exact j l
   ·exact l a
  |_=>rw[o]at a;simp at a
theorem zdI{α:Type}{tm rgs:List Nat}{c:ACode}{N:Nat}{ks:List Kn}{i:List vi}(g:α->(Nat->AV)->(Nat->Option (List AV))->AS->Prop)(μ:α->Nat){R:α->Option (AV×AS)->Prop}
 (o:∀a e rg S,g a e rg S->NQ tm rgs e)
 (h:∀(p:List Kn),p=.loop tm rgs c::ks->∀a e rg S,g a e rg S->(∀a' l j S',μ a'<μ a->(∀r,R a' r->R a r)->g a' l j S'->R a (fin i (unw AA (some (.normal,st N l j S')) p)))->R a (fin i (zH AA c (st N (fgt tm e) (zbu rgs rg) S) p))):
 ∀a e rg S,g a e rg S->R a (fin i (zH AA (.loop tm rgs c) (st N e rg S) ks)):=by
 have key:∀n a,μ a=n->∀e rg S,g a e rg S->R a (fin i (zH AA (.loop tm rgs c) (st N e rg S) ks)):=by
  intro n
  induction n using Nat.strongRecOn with
  |_ n ih=>
   intro a t e rg S m;have u:zH AA (.loop tm rgs c) (st N e rg S) ks=zH AA c (st N (fgt tm e) (zbu rgs rg) S) (.loop tm rgs c::ks):=by
    unfold zH;rw[za2];simp only[jn,zAE (o a e rg S m),xae];rfl
   rw[u];refine h _ rfl a e rg S m fun a' l j S' q w s=>?_;rw[vR];exact w _ (ih (μ a') (t▸q) a' rfl l j S' s)
 exact fun a e rg S m=>key _ a rfl e rg S m
theorem zrc{rgs:List Nat}{rg:Nat->Option (List AV)}{n:Nat}:zbu rgs rg n=if rgs.contains n then none else rg n:=rfl
end
theorem ziO{o:Nat->Nat->Nat->Nat->Option (List (List AV))}:∀{l:List AV},qz o l=zI (AV.frz o) l
 |[]=>rfl
 |a::l=>by simp only[qz,zI,ziO]
theorem ziP{o:Nat->Nat->Nat->Nat->Option (List (List AV))}:∀{l:List (List AV)},qA o l=zI (zI (AV.frz o)) l
 |[]=>rfl
 |a::l=>by simp only[qA,zI,ziO,ziP]
section
variable{S:AS}{b d:Nat}
@[simp] theorem zM2{α β:Type}{f:α->Option β}:zI f []=some []:=rfl
@[simp] theorem zM1{α β:Type}{f:α->Option β}{a:α}{l:List α}:zI f (a::l)=(f a).bind fun b=>(zI f l).map (b::·):=rfl
@[simp] theorem zAJ{v:Value}:S.frzTo b d (.sc v)=some (.sc v):=by cases d<;>rfl
@[simp] theorem zMb:S.frzTo b d .opq=some .opq:=by cases d<;>rfl
@[simp] theorem zL8{cs:List AV}:S.frzTo b d (.agg cs)=(zI (S.frzTo b d) cs).map .agg:=by cases d<;>(simp only[AS.frzTo,AV.frz,ziO])
@[simp] theorem zMd{cs:List AV}:S.frzTo b d (.tup cs)=(zI (S.frzTo b d) cs).map .tup:=by cases d<;>(simp only[AS.frzTo,AV.frz,ziO])
@[simp] theorem ziR{z:Nat}{f:Bool}{xs:List (List AV)}:S.frzTo b d (.lst z f xs)=(zI (zI (S.frzTo b d)) xs).map (lstN z):=by cases d<;>(simp only[AS.frzTo,AV.frz,ziP])
@[simp] theorem zMa{z:Nat}{xs:List (List AV)}:S.frzTo b d (lstN z xs)=(zI (zI (S.frzTo b d)) xs).map (lstN z):=by
 cases xs with
 |nil=>cases d<;>rfl
 |cons x xs=>unfold lstN;rw[ziR];rfl
theorem ziQ{id sz off n:Nat}{lim:Option Nat}{rs:List (List AV)}(h:S.slice b id sz off n=some rs):S.frzTo b (d+1) (.arr id sz off n lim)=(zI (zI (S.frzTo b d)) rs).map (lstN sz):=by
 simp only[AS.frzTo,AV.frz,h,xae]
end
def ztA:AV->Option AV
 | .reg _ _=>none
 |v=>some v
@[simp] theorem zOh{v:AV}:ztA v=if v.isReg=true then none else some v:=by cases v<;>rfl
@[simp] theorem zOg{t N:Nat}{e:Nat->AV}{rg:Nat->Option (List AV)}{S:AS}:yN (.tmp t) N e rg S=ztA (if t<N then e t else .junk):=by
 simp only[yN];generalize(if t<N then e t else AV.junk)=v;cases v<;>rfl
@[simp] theorem zOf{t sz N:Nat}{g:Bool}{e:Nat->AV}{rg:Nat->Option (List AV)}{S:AS}:yN (.cell t sz g) N e rg S=
 match(if t<N then e t else .junk)with
 | .reg r c=>(rg r).bind fun cs=>yW cs c sz g
 | .iptr cs=>yW cs 0 sz g
 | .ptr id row c=>match S.heap id with
   |some (.rows _ rs)=>(rs[row]?).bind fun cs=>yW cs c sz g
   |_=>none
 |_=>none:=rfl
def zsR(rgs:List Nat)(v:AV):Bool:=okR rgs v
@[simp] theorem zM6{rgs:List Nat}{v:AV}:okR rgs v=if v.isReg=true then zsR rgs v else true:=by cases v<;>rfl
@[simp] theorem zM5{rgs:List Nat}{r c:Nat}:zsR rgs (.reg r c)=!rgs.contains r:=rfl
@[simp] theorem zMG{r c:Nat}:(AV.reg r c).isReg=true:=rfl
attribute [simp] zg AV.pure jR yD vc zj yL AV.nrm setCells zn qR zrc
inductive T:Type
 |mk (kind:Int) (name:ByteArray) (kids:List T)
 deriving Inhabited
def T.kind:T->Int| .mk k _ _=>k
def T.name:T->ByteArray| .mk _ n _=>n
def T.kids:T->List T| .mk _ _ l=>l
mutual
def T.cells:T->List AV
 | .mk k n l=>[.sc (.int .i64 k),.sc (.string n),lstN 3 (ym l)]
def ym:List T->List (List AV)
 |[]=>[]
 |t::l=>t.cells::ym l
end
theorem wj:∀{l:List T},ym l=l.map T.cells
 |[]=>rfl
 |t::l=>by rw[ym,wj];rfl
def zh(l:List T):AV:=lstN 3 (l.map T.cells)
theorem zq(t:T):t.cells=[.sc (.int .i64 t.kind),.sc (.string t.name),zh t.kids]:=by
 obtain⟨k,n,l⟩:=t;rw[T.cells,wj];rfl
mutual
theorem T.frz_cells(o:Nat->Nat->Nat->Nat->Option (List (List AV))):∀t:T,qz o t.cells=some t.cells
 | .mk k n l=>by
   rw[T.cells];simp only[qz,AV.frz,lstN,xae,zfP o l,xam];split<;>simp_all
theorem zfP(o:Nat->Nat->Nat->Nat->Option (List (List AV))):∀l:List T,qA o (ym l)=some (ym l)
 |[]=>rfl
 |t::l=>by
  rw[ym];simp only[qA,T.frz_cells o t,xae,zfP o l,xam]
end
mutual
theorem T.pure_cells:∀t:T,jR t.cells=true
 | .mk k n l=>by
   rw[T.cells];simp[jR,AV.pure,lstN,zmD l]
theorem zmD:∀l:List T,qo (ym l)=true
 |[]=>rfl
 |t::l=>by
  rw[ym];simp[qo,T.pure_cells t,zmD l]
end
mutual
theorem T.nrm_cells:∀t:T,yL t.cells=t.cells
 | .mk k n l=>by
   rw[T.cells];simp only[yL,AV.nrm,lstN,zjB l];cases l<;>rfl
theorem zjB:∀l:List T,vz (ym l)=ym l
 |[]=>rfl
 |t::l=>by rw[ym,vz,T.nrm_cells t,zjB l]
end
@[simp] theorem T.len_cells(t:T):t.cells.length=3:=by rw[zq];rfl
@[simp] theorem zMX(l:List T):(zh l).isCell=true:=rfl
@[simp] theorem zM0(l:List T):(zh l).isReg=false:=rfl
@[simp] theorem zMY(l:List T):(zh l).cells=[zh l]:=rfl
@[simp] theorem T.cell_cells(t:T):t.cells.all AV.isCell=true:=by rw[zq];rfl
@[simp] theorem T.get0(t:T):yW t.cells 0 1 false=some (.sc (.int .i64 t.kind)):=by rw[zq];rfl
@[simp] theorem T.get1(t:T):yW t.cells 1 1 false=some (.sc (.string t.name)):=by rw[zq];rfl
@[simp] theorem T.get2(t:T):yW t.cells 2 1 false=some (zh t.kids):=by rw[zq];rfl
@[simp] theorem T.get3(t:T):yW t.cells 0 3 true=some (.agg t.cells):=by rw[zq];rfl
@[simp] theorem T.tk0(t:T):t.cells.take 1=[.sc (.int .i64 t.kind)]:=by rw[zq];rfl
@[simp] theorem T.tk1(t:T):(t.cells.drop 1).take 1=[.sc (.string t.name)]:=by rw[zq];rfl
@[simp] theorem T.tk1'(t:T):t.cells.tail.take 1=[.sc (.string t.name)]:=by rw[zq];rfl
@[simp] theorem T.tk2(t:T):(t.cells.drop 2).take 1=[zh t.kids]:=by rw[zq];rfl
@[simp] theorem T.tk3(t:T):t.cells.take 3=t.cells:=List.take_of_length_le (by simp)
@[simp] theorem T.fd0(t:T):pev (.field 0 1 false) [.agg t.cells]=some (.sc (.int .i64 t.kind)):=by rw[zq];rfl
@[simp] theorem T.fd1(t:T):pev (.field 1 1 false) [.agg t.cells]=some (.sc (.string t.name)):=by rw[zq];rfl
@[simp] theorem T.fd2(t:T):pev (.field 2 1 false) [.agg t.cells]=some (zh t.kids):=by rw[zq];rfl
@[simp] theorem zMZ(l:List T):pev .lenL [zh l]=some (.sc (.int .i64 l.length)):=by simp[pev,zh,lstN]
theorem zJ{l:List T}{i:Nat}{t:T}(h:l[i]?=some t):pev (.iaddr 3) [zh l,.sc (.int .i64 (i:Int))]=some (.iptr t.cells):=by
 have a:l≠[]:=by rintro rfl;simp at h
 have:(l.map T.cells).isEmpty=false:=by cases l with|nil=>exact absurd rfl a|cons _ _=>rfl
 simp[pev,zh,lstN,this,h]
theorem zjg(S:AS)(l:List T):zD 3 S (zh l)=some (l.map T.cells):=by
 cases l<;>simp[zD,zh,lstN]
theorem zyr(S:AS)(least d:Nat)(t:T):S.frzTo least d (.agg t.cells)=some (.agg t.cells):=by
 cases d<;>simp only[AS.frzTo,AV.frz,T.frz_cells,xam]
theorem zj8(t:T):(AV.agg t.cells).pure=true:=by simp[AV.pure,T.pure_cells]
theorem zCc(S:AS)(least d:Nat)(l:List T):S.frzTo least d (zh l)=some (zh l):=by
 unfold zh;rw[<-wj];cases d<;>simp only[AS.frzTo,lstN,AV.frz,zfP,xam]<;>split<;>simp_all
theorem zCd(l:List T):(zh l).pure=true:=by
 unfold zh lstN;rw[<-wj];simp[AV.pure,zmD]
@[simp] theorem zjf(l:List T):(zh l).nrm=zh l:=by
 unfold zh lstN;rw[AV.nrm,<-wj,zjB];unfold lstN;cases l<;>rfl
@[simp] theorem zfB(z:Nat)(f:Bool)(l:List T)(h:l≠[]->z=3):(AV.lst z f (l.map T.cells)).nrm=zh l:=by
 rw[AV.nrm,<-wj,zjB,wj];unfold zh lstN;cases l with
 |nil=>rfl
 |cons t l=>rw[h (by simp)]
@[simp] theorem zsp(o:Nat->Nat->Nat->Nat->Option (List (List AV)))(l:List T):(zh l).frz o=some (zh l):=by
 unfold zh lstN;rw[AV.frz,<-wj,zfP];unfold lstN;cases l<;>rfl
attribute [simp] T.nrm_cells T.frz_cells T.pure_cells zCd
@[simp] theorem zAH{S:AS}{b d:Nat}{t:T}:zI (S.frzTo b d) t.cells=some t.cells:=by
 have a:S.frzTo b d (zh t.kids)=some (zh t.kids):=by cases d<;>exact zsp _ _
 rw[zq];simp only[zI,a,zAJ,xae,xam]
@[simp] theorem zL7{S:AS}{b d:Nat}{l:List T}:S.frzTo b d (zh l)=some (zh l):=by cases d<;>exact zsp _ _
@[simp] theorem zAI{S:AS}{b d:Nat}:∀{l:List T},zI (zI (S.frzTo b d)) (l.map T.cells)=some (l.map T.cells)
 |[]=>rfl
 |t::l=>by simp only[xao,zI,zAH,zAI,xae,xam]
def zv(l:List ByteArray):List (List AV):=l.map fun s=>[.sc (.string s)]
def zV(l:List Int):List (List AV):=l.map fun n=>[.sc (.int .i64 n)]
def zk(l:List ByteArray):AV:=lstN 1 (zv l)
def yi(l:List Int):AV:=lstN 1 (zV l)
theorem zmc:∀l:List ByteArray,vz (zv l)=zv l
 |[]=>rfl
 |s::l=>by
  have:=zmc l;unfold zv at this ⊢;rw[xao,vz,this];rfl
theorem zsH:∀l:List Int,vz (zV l)=zV l
 |[]=>rfl
 |s::l=>by
  have:=zsH l;unfold zV at this ⊢;rw[xao,vz,this];rfl
theorem ziU(o:Nat->Nat->Nat->Nat->Option (List (List AV))):∀l:List ByteArray,qA o (zv l)=some (zv l)
 |[]=>rfl
 |s::l=>by
  have:=ziU o l;unfold zv at this ⊢;rw[xao,qA,this];rfl
theorem ziS(o:Nat->Nat->Nat->Nat->Option (List (List AV))):∀l:List Int,qA o (zV l)=some (zV l)
 |[]=>rfl
 |s::l=>by
  have:=ziS o l;unfold zV at this ⊢;rw[xao,qA,this];rfl
theorem zti:∀l:List ByteArray,qo (zv l)=true
 |[]=>rfl
 |s::l=>by
  have:=zti l;unfold zv at this ⊢;rw[xao,qo,this];rfl
theorem zth:∀l:List Int,qo (zV l)=true
 |[]=>rfl
 |s::l=>by
  have:=zth l;unfold zV at this ⊢;rw[xao,qo,this];rfl
@[simp] theorem zag(l:List ByteArray):(zv l).length=l.length:=by simp[zv]
@[simp] theorem zrD(l:List Int):(zV l).length=l.length:=by simp[zV]
theorem zsn{z:Nat}{xs:List (List AV)}(h:vz xs=xs):(lstN z xs).nrm=lstN z xs:=by
 unfold lstN;rw[AV.nrm,h];unfold lstN;cases xs<;>rfl
theorem zjd{z:Nat}{xs:List (List AV)}{o:Nat->Nat->Nat->Nat->Option (List (List AV))}(h:qA o xs=some xs):(lstN z xs).frz o=some (lstN z xs):=by
 unfold lstN;rw[AV.frz,h];unfold lstN;cases xs<;>rfl
@[simp] theorem zso(l:List ByteArray):(zk l).nrm=zk l:=zsn (zmc l)
@[simp] theorem zMM(l:List Int):(yi l).nrm=yi l:=zsn (zsH l)
@[simp] theorem zL6{S:AS}{b d:Nat}{l:List ByteArray}:S.frzTo b d (zk l)=some (zk l):=by cases d<;>exact zjd (ziU _ l)
@[simp] theorem zL5{S:AS}{b d:Nat}{l:List Int}:S.frzTo b d (yi l)=some (yi l):=by cases d<;>exact zjd (ziS _ l)
@[simp] theorem zMc{S:AS}{b d:Nat}{l:List ByteArray}:zI (zI (S.frzTo b d)) (zv l)=some (zv l):=by cases d<;>(rw[<-ziU _ l,ziP];rfl)
@[simp] theorem zL9{S:AS}{b d:Nat}{l:List Int}:zI (zI (S.frzTo b d)) (zV l)=some (zV l):=by cases d<;>(rw[<-ziS _ l,ziP];rfl)
@[simp] theorem zMT(o:Nat->Nat->Nat->Nat->Option (List (List AV)))(l:List ByteArray):(zk l).frz o=some (zk l):=zjd (ziU o l)
@[simp] theorem zMK(o:Nat->Nat->Nat->Nat->Option (List (List AV)))(l:List Int):(yi l).frz o=some (yi l):=zjd (ziS o l)
@[simp] theorem zMV(l:List ByteArray):(zk l).pure=true:=by unfold zk lstN;simp[AV.pure,zti]
@[simp] theorem zMN(l:List Int):(yi l).pure=true:=by unfold yi lstN;simp[AV.pure,zth]
@[simp] theorem zMR(l:List ByteArray):(zk l).isCell=true:=rfl
@[simp] theorem zMI(l:List Int):(yi l).isCell=true:=rfl
@[simp] theorem zMW(l:List ByteArray):(zk l).isReg=false:=rfl
@[simp] theorem zMO(l:List Int):(yi l).isReg=false:=rfl
@[simp] theorem zMS(l:List ByteArray):(zk l).cells=[zk l]:=rfl
@[simp] theorem zMJ(l:List Int):(yi l).cells=[yi l]:=rfl
@[simp] theorem zMU(l:List ByteArray):pev .lenL [zk l]=some (.sc (.int .i64 l.length)):=by unfold zk;rw[ztb,zag]
@[simp] theorem zML(l:List Int):pev .lenL [yi l]=some (.sc (.int .i64 l.length)):=by unfold yi;rw[ztb,zrD]
theorem wb{l:List ByteArray}{i:Nat}{s:ByteArray}(h:l[i]?=some s):pev (.iaddr 1) [zk l,.sc (.int .i64 (i:Int))]=some (.iptr [.sc (.string s)]):=by
 unfold zk;rw[zta (by omega)];simp[zv,h]
theorem zB3{l:List Int}{i:Nat}{s:Int}(h:l[i]?=some s):pev (.iaddr 1) [yi l,.sc (.int .i64 (i:Int))]=some (.iptr [.sc (.int .i64 s)]):=by
 unfold yi;rw[zta (by omega)];simp[zV,h]
theorem zB5(S:AS)(z:Nat)(xs:List (List AV)):zD z S (lstN z xs)=some xs:=by
 cases xs<;>simp[zD,lstN]
theorem zl5(S:AS)(z:Nat)(f:Bool)(xs:List (List AV)):zD z S (.lst z f xs)=some xs:=by simp[zD]
theorem zje(S:AS)(l:List ByteArray):zD 1 S (zk l)=some (zv l):=zB5 ..
theorem kT{S S':AS}{v:Value}:zW S (some (.sc v,S'))=some (.sc v,S):=by
 simp[zW,AS.frzTo,AV.frz,AV.pure]
mutual
def T.same:T->T->Bool
 | .mk k n l,.mk k' n' l'=>decide (k=k')&&decide (n=n')&&qE l l'
def qE:List T->List T->Bool
 |[],[]=>true
 |a::l,b::m=>a.same b&&qE l m
 |_,_=>false
end
mutual
theorem T.same_iff:∀{a b:T},a.same b=true↔a=b
 | .mk k n l,.mk k' n' l'=>by
   simp only[T.same,xab,decide_eq_true_eq,T.mk.injEq,zfS,and_assoc]
theorem zfS:∀{l m:List T},qE l m=true↔l=m
 |[],[]=>by simp[qE]
 |[],_::_=>by simp[qE]
 |_::_,[]=>by simp[qE]
 |a::l,b::m=>by simp only[qE,xab,xak,T.same_iff,zfS]
end
mutual
def T.fits:T->Prop
 | .mk _ _ l=>l.length<=4611686018427387904/\wY l
def wY:List T->Prop
 |[]=>True
 |t::l=>t.fits/\wY l
end
theorem zrj:∀{l:List T},wY l->∀t∈l,t.fits
 |[],_,t,h=>by cases h
 |a::l,h,t,c=>by
  rcases xaz.1 c with rfl|c
  ·exact h.1
  ·exact zrj h.2 t c
theorem T.fits_kids:∀{t:T},t.fits->t.kids.length<=4611686018427387904/\∀u∈t.kids,u.fits
 | .mk _ _ l,h=>⟨h.1,zrj h.2⟩
@[simp] theorem T.fits_mk{k:Int}{n:ByteArray}{l:List T}:(T.mk k n l).fits↔l.length<=4611686018427387904/\wY l:=Iff.rfl
@[simp] theorem zL4:wY []:=trivial
@[simp] theorem zL3{t:T}{l:List T}:wY (t::l)↔t.fits/\wY l:=Iff.rfl
theorem zri:∀{l:List T},wY l↔∀t∈l,t.fits
 |[]=>by simp
 |t::l=>by simp[zri (l:=l)]
mutual
def T.nsz(b:Nat):T->Prop
 | .mk _ n l=>n.size<=b/\zdN b l
def zdN(b:Nat):List T->Prop
 |[]=>True
 |t::l=>t.nsz b/\zdN b l
end
@[simp] theorem T.nsz_mk{b:Nat}{k:Int}{n:ByteArray}{l:List T}:(T.mk k n l).nsz b↔n.size<=b/\zdN b l:=Iff.rfl
@[simp] theorem zM4{b:Nat}:zdN b []:=trivial
@[simp] theorem zM3{b:Nat}{t:T}{l:List T}:zdN b (t::l)↔t.nsz b/\zdN b l:=Iff.rfl
theorem T.same_def:∀(a b:T),a.same b=(decide (a.kind=b.kind)&&decide (a.name=b.name)&&qE a.kids b.kids)
 | .mk _ _ _,.mk _ _ _=>rfl
section
theorem zJB{a b:T}{rg:Nat->Option (List AV)}{S:AS}{ks:List Kn}(s:rg 2=some a.cells)(x:rg 3=some b.cells)
 (H:a.kids.length=b.kids.length) (I:a.kids.length<=4611686018427387904)
 (ih:∀t∈a.kids,∀u,call 61 [.agg t.cells,.agg u.cells] S=some (.sc (.bool (t.same u)),S))
 (z:∀e,e 4=.sc (.bool false)->fin [.tmp 4] (unw AA (some (.ret,st 48 e rg S)) ks)=some (.sc (.bool false),S))
 (A:∀e,fin [.tmp 4] (unw AA (some (.exit 0,st 48 e rg S)) ks)=some (.sc (.bool true),S)):
 ∀(n i:Nat) (e:Nat->AV) (tm:List Nat),n+i=a.kids.length->tm=[4,6,28,29,30,31,32,33,34,35,36,37,38,39,40,41,42,43,44,45,46,47]->e 2=.reg 2 0->e 3=.reg 3 0->e 5=.sc (.int .i64 i)->
  fin [.tmp 4] (zH AA (.loop tm [] zcn) (st 48 e rg S) ks)=some (.sc (.bool (qE (a.kids.drop i) (b.kids.drop i))),S):=by
 intro n
 induction n with
 |zero=>
  intro i e tm B c g h o;rw[jG];generalize j:Kn.loop tm [] zcn::ks=C;have p:¬(i:Int)<a.kids.length:=by omega
  simp[zcn,zn,c,g,h,o,s,p];rw[<-j];simp;rw[A,xaB (by omega),xaB (by omega)];rfl
 |succ n ihn=>
  intro i e tm B c g h o;rw[jG];generalize j:Kn.loop tm [] zcn::ks=C;have p:(i:Int)<a.kids.length:=by omega
  have y:i<a.kids.length:=by omega
  have l:i<b.kids.length:=by omega
  obtain⟨t,q⟩:∃t,a.kids[i]?=some t:=⟨a.kids[i],by simp[y]⟩;obtain⟨u,w⟩:∃u,b.kids[i]?=some u:=⟨b.kids[i],by simp[l]⟩;have D:qE (a.kids.drop i) (b.kids.drop i)=(t.same u&&qE (a.kids.drop (i+1)) (b.kids.drop (i+1))):=by
   obtain⟨_,E⟩:=xal.1 q;obtain⟨_,F⟩:=xal.1 w;rw[List.drop_eq_getElem_cons y,List.drop_eq_getElem_cons l,E,F];rfl
  have r:=ih t (xaj q) u;have G:IntKind.i64.wrap ((i:Int)+1)=((i+1:Nat):Int):=w64 (by omega);rw[D];cases m:t.same u with
  |false=>
   rw[m]at r;simp[zcn,zn,c,g,h,o,s,x,p,zJ q,zJ w,r];rw[<-j];simp;exact z _ (by simp[zn])
  |true=>
   rw[m]at r;simp[zcn,zn,c,g,h,o,s,x,p,zJ q,zJ w,r,G];rw[<-j,vR];exact ihn (i+1) _ tm (by omega) c (by simp[zn,c,g]) (by simp[zn,c,h]) (by simp[zn])
theorem T.kid_lt{t:T}:∀{a:T},t∈a.kids->sizeOf t<sizeOf a
 | .mk _ _ l,h=>by
   have:=List.sizeOf_lt_of_mem (show t∈l from h);simp only[T.mk.sizeOf_spec];omega
theorem zus:∀(n:Nat) (a b:T) (S:AS),sizeOf a<n->a.fits->call 61 [.agg a.cells,.agg b.cells] S=some (.sc (.bool (a.same b)),S)
 |0,_,_,_,h,_=>by omega
 |n+1,a,b,S,hn,hfit=>by
  obtain⟨g,c⟩:=T.fits_kids hfit;rw[zi a61 rfl (by simp) rfl];simp only[f61];rw[T.same_def];by_cases i:a.kind=b.kind
  ·by_cases l:a.name=b.name
   ·by_cases j:a.kids.length=b.kids.length
    ·simp[zff,zn,qR,i,l,j];refine(congrArg (zW S) (zJB (a:=a) (b:=b) (by simp[qR]) (by simp[qR]) j g
      (fun t o u=>zus n t u _ (by have:=T.kid_lt o;omega) (c t o)) ?_ ?_ a.kids.length 0 _ _ (by omega) rfl (by simp[zn]) (by simp[zn]) (by simp[zn]))).trans ?_
     ·intro e p;simp[p,yD,yN]
     ·intro e;simp[zn,yD,yN]
     ·simp[kT]
    ·have q:qE a.kids b.kids=false:=by
      rw[Bool.eq_false_iff];intro h;exact j (by rw[zfS.1 h])
     have m:¬(a.kids.length:Int)=b.kids.length:=by omega
     simp[zff,zn,qR,i,l,j,m,q,yD,yN,kT]
   ·simp[zff,zn,qR,i,l,yD,yN,kT]
  ·simp[zff,zn,qR,i,yD,yN,kT]
@[simp] theorem s61{a b:T}{S:AS}(h:a.fits):call 61 [.agg a.cells,.agg b.cells] S=some (.sc (.bool (a.same b)),S):=zus _ a b S (xay _) h
@[simp] theorem T.same_self(a:T):a.same a=true:=T.same_iff.2 rfl
end
theorem zsu{S:AS}{least d:Nat}:∀{l:List T},zI (zI (S.frzTo least d)) (l.map T.cells)=some (l.map T.cells)
 |[]=>rfl
 |t::l=>by
  have h:zI (S.frzTo least d) t.cells=some t.cells:=by
   rw[zq];simp only[zI,zCc];cases d<;>rfl
  simp only[xao,zI,h,zsu,xae,xam]
theorem zkr{S S':AS}{t:T}:zW S (some (.agg t.cells,S'))=some (.agg t.cells,S):=by
 simp[zW,zyr,zj8]
theorem zzw{S S':AS}{k:Int}{n:ByteArray}{z:Nat}{f:Bool}{l:List T}(a:l≠[]->z=3):zW S (some (.agg [.sc (.int .i64 k),.sc (.string n),.lst z f (l.map T.cells)],S'))=some (.agg (T.mk k n l).cells,S):=by
 have e:(T.mk k n l).cells=[.sc (.int .i64 k),.sc (.string n),zh l]:=zq _;have h:S'.frzTo S.n 2 (.agg [.sc (.int .i64 k),.sc (.string n),.lst z f (l.map T.cells)])=some (.agg (T.mk k n l).cells):=by
  rw[e];simp only[AS.frzTo,AV.frz,qz,xae];rw[<-wj,zfP];simp only[xam,xae,zh,<-wj];cases l with
  |nil=>rfl
  |cons t l=>rw[a (by simp)]
 simp only[zW,xae,h,zj8,if_true]
theorem zog{S S':AS}{k:Int}{n:ByteArray}{id off len:Nat}{lim:Option Nat}{l:List T}(a:S'.slice S.n id 3 off len=some (l.map T.cells)):zW S (some (.agg [.sc (.int .i64 k),.sc (.string n),.arr id 3 off len lim],S'))=some (.agg (T.mk k n l).cells,S):=by
 have e:(T.mk k n l).cells=[.sc (.int .i64 k),.sc (.string n),zh l]:=zq _;have h:S'.frzTo S.n 2 (.agg [.sc (.int .i64 k),.sc (.string n),.arr id 3 off len lim])=some (.agg (T.mk k n l).cells):=by
  rw[e];simp only[AS.frzTo,AV.frz,qz,xae,a,xam];have:=@zsu S' S.n 1 l;simp only[AS.frzTo,AV.frz]at this;rw[this];rfl
 simp only[zW,xae,h,zj8,if_true]
section
variable{S:AS}
@[simp] theorem zOp(s:ByteArray):call 161 [.sc (.string s)] S=some (.agg (T.mk 1 s []).cells,S):=by
 rw[zi zvS rfl (by simp) rfl];have:=@zzw S {S with ro:=S.n} 1 s 0 true [] (by simp);simp only[List.map_nil]at this;simp[zgY,zpq,zn,qR,setCells,yD,yN,vc,this]
def eqB(s:ByteArray):ByteArray:=⟨#[61]⟩++s
def yU(s:ByteArray):T:=.mk 1 (eqB s) []
theorem zs9{s:ByteArray}(a:s.size<=4611686018427387904):pev (.bin .add) [AV.s ⟨#[61]⟩,.sc (.string s)]=some (.sc (.string (eqB s))):=by
 have:¬((((⟨#[61]⟩:ByteArray).size+s.size:Nat):Int) > IntKind.i64.max):=by
  have c:IntKind.i64.max=9223372036854775807:=by decide
  have e:(⟨#[61]⟩:ByteArray).size=1:=rfl;omega
 simp only[pev,wm,if_neg this,xam];rfl
@[simp] theorem s65(s:ByteArray)(a:s.size<=4611686018427387904):call 65 [.sc (.string s)] S=some (.agg (yU s).cells,S):=by
 rw[zi a65 rfl (by simp) rfl];simp[f65,zqZ,zn,qR,setCells,yD,yN,zkr,zs9 a,yU]
end
mutual
def T.cnt:T->Int
 | .mk _ _ l=>zcZ l 1
def zcZ:List T->Int->Int
 |[],n=>n
 |t::l,n=>zcZ l (IntKind.i64.wrap (n+t.cnt))
end
theorem T.cnt_def:∀t:T,t.cnt=zcZ t.kids 1
 | .mk _ _ _=>rfl
section
theorem zzN{a:T}{rg:Nat->Option (List AV)}{S:AS}{ks:List Kn}(q:rg 1=some a.cells)(B:a.kids.length<=4611686018427387904)
 (ih:∀t∈a.kids,call 142 [.agg t.cells] S=some (.sc (.int .i64 t.cnt),S))
 (s:∀e n,e 3=.sc (.int .i64 n)->fin [.tmp 2] (unw AA (some (.exit 0,st 21 e rg S)) ks)=some (.sc (.int .i64 n),S)):
 ∀(n i:Nat) (e:Nat->AV) (m:Int) (tm:List Nat),n+i=a.kids.length->tm=[5,6,7,8,9,10,11,12,13,14,15,16,17,18,19]->e 1=.reg 1 0->e 3=.sc (.int .i64 m)->e 4=.sc (.int .i64 i)->
  fin [.tmp 2] (zH AA (.loop tm [] zdb) (st 21 e rg S) ks)=some (.sc (.int .i64 (zcZ (a.kids.drop i) m)),S):=by
 intro n
 induction n with
 |zero=>
  intro i e m tm u c g j l;rw[jG];generalize h:Kn.loop tm [] zdb::ks=w;have o:¬(i:Int)<a.kids.length:=by omega
  simp[zdb,zn,c,g,l,q,o];rw[<-h];simp;rw[s _ m (by simp[zn,j]),xaB (by omega)];rfl
 |succ n ihn=>
  intro i e m tm u c g j l;rw[jG];generalize h:Kn.loop tm [] zdb::ks=w;have o:(i:Int)<a.kids.length:=by omega
  have r:i<a.kids.length:=by omega
  obtain⟨t,p⟩:∃t,a.kids[i]?=some t:=⟨a.kids[i],by simp[r]⟩;have x:=ih t (xaj p);have y:IntKind.i64.wrap ((i:Int)+1)=((i+1:Nat):Int):=w64 (by omega);have z:zcZ (a.kids.drop i) m=zcZ (a.kids.drop (i+1)) (IntKind.i64.wrap (m+t.cnt)):=by
   obtain⟨_,A⟩:=xal.1 p;rw[List.drop_eq_getElem_cons r,A];rfl
  simp[zdb,zn,c,g,j,l,q,o,zJ p,x,y];rw[<-h,vR,z];exact ihn (i+1) _ _ tm (by omega) c (by simp[zn,c,g]) (by simp[zn]) (by simp[zn])
theorem ztn:∀(n:Nat) (a:T) (S:AS),sizeOf a<n->a.fits->call 142 [.agg a.cells] S=some (.sc (.int .i64 a.cnt),S)
 |0,_,_,h,_=>by omega
 |n+1,a,S,hn,hfit=>by
  obtain⟨g,c⟩:=T.fits_kids hfit;rw[zi zvJ rfl (by simp) rfl];simp only[zgS];simp[zpk,zn,qR];refine(congrArg (zW S) (zzN (a:=a) (by simp[qR]) g (fun t i=>ztn n t _ (by have:=T.kid_lt i;omega) (c t i)) ?_ a.kids.length 0 _ 1 _ (by omega) rfl (by simp[zn]) (by simp[zn]) (by simp[zn]))).trans ?_
  ·intro e m j;simp[zn,j,yD,yN]
  ·simp[kT,T.cnt_def]
@[simp] theorem zIy{a:T}{S:AS}(h:a.fits):call 142 [.agg a.cells] S=some (.sc (.int .i64 a.cnt),S):=ztn _ a S (xay _) h
end
theorem zsd:∀{a b:List UInt8},Go.Op.bytesLess a b=decide (a<b)
 |[],[]=>by simp[Go.Op.bytesLess]
 |[],b::bs=>by simp[Go.Op.bytesLess]
 |a::as,[]=>by simp[Go.Op.bytesLess]
 |a::as,b::bs=>by
  have ih:=@zsd as bs;simp only[Go.Op.bytesLess,ih,List.cons_lt_cons_iff];by_cases c:a<b
  ·simp[c]
  ·by_cases e:a=b
   ·subst e;simp
   ·simp[c,e]
theorem kS{x y:ByteArray}(h:x.data.toList=y.data.toList):x=y:=by
 obtain⟨⟨x⟩⟩:=x;obtain⟨⟨y⟩⟩:=y;simp at h;rw[h]
theorem zfR{x y:ByteArray}:sLt x y=decide (x.data.toList<y.data.toList):=by
 unfold sLt;show Go.Op.bytesLess _ _=_;rw[zsd,ByteArray.toList_eq,ByteArray.toList_eq]
def jF(d:Nat):ByteArray:=⟨#[UInt8.ofNat (48+d)]⟩
theorem zjr{n:Nat}:pev (.bin .rem) [.sc (.int .i64 (n:Int)),.i 10]=some (.sc (.int .i64 ((n%10:Nat):Int))):=by
 have:(n:Int).tmod 10=((n%10:Nat):Int):=by
  rw[Int.tmod_eq_emod_of_nonneg (by omega)];omega
 simp only[pev,vL,this];rfl
theorem zjq{n:Nat}(h:n<=9223372036854775807):pev (.bin .quo) [.sc (.int .i64 (n:Int)),.i 10]=some (.sc (.int .i64 ((n/10:Nat):Int))):=by
 have:IntKind.i64.wrap ((n:Int).tdiv 10)=((n/10:Nat):Int):=by
  rw[show(n:Int).tdiv 10=((n/10:Nat):Int)by
   rw[Int.tdiv_eq_ediv_of_nonneg (by omega)];omega]
  exact w64 (by omega)
 simp only[pev,vL,this];rfl
theorem zjY{d:Nat}(h:d<10):IntKind.u8.wrap (IntKind.i64.wrap (48+(d:Int)))=((48+d:Nat):Int):=by
 rw[w64 (by omega)]
 match d,h with
 |0,_|1,_|2,_|3,_|4,_|5,_|6,_|7,_|8,_|9,_=>rfl
theorem zjp{d:Nat}:pev .bytesStr [.lst 1 true [[.sc (.int .u8 ((48+d:Nat):Int))]]]=some (.sc (.string (jF d))):=by
 simp only[pev,bytesOf,xam,Int.toNat_natCast];rfl
def yj(n:Nat):ByteArray:=⟨(Lib.decDigits n).toArray⟩
theorem zgn{x y:List UInt8}:(⟨x.toArray⟩:ByteArray)++⟨y.toArray⟩=⟨(x++y).toArray⟩:=by
 apply kS;simp[ByteArray.data_append]
theorem zcU{x y z:ByteArray}:x++y++z=x++(y++z):=by
 apply kS;simp[ByteArray.data_append]
theorem zdO{n:Nat}(h:10<=n):yj n=yj (n/10)++jF (n%10):=by
 unfold yj jF;rw[Lib.decDigits,dif_neg (by omega)];exact(zgn (x:=Lib.decDigits (n/10)) (y:=[UInt8.ofNat (48+n%10)])).symm
theorem zcz{n:Nat}(h:n<10):yj n=jF n:=by
 unfold yj jF;rw[Lib.decDigits_one h]
theorem zmd(n:Nat):(yj n).size<=n/4+1:=by
 induction n using Nat.strongRecOn with
 |_ n ih=>
  by_cases h:n<10
  ·rw[zcz h];show 1<=_;omega
  ·rw[zdO (by omega),xai];have:=ih (n/10) (by omega);have a:(jF (n%10)).size=1:=rfl;omega
def kI(n k:Nat):ByteArray:=if n=0/\0<k then⟨#[]⟩else yj n
theorem zHK{n k:Nat}(h:0<n\/k=0):kI n k=kI (n/10) (k+1)++jF (n%10):=by
 have e:kI n k=yj n:=by unfold kI;rw[if_neg (by omega)]
 rw[e];by_cases c:n<10
 ·have a:kI (n/10) (k+1)=⟨#[]⟩:=by unfold kI;rw[if_pos (by omega)]
  rw[a,zcz c,Nat.mod_eq_of_lt c];exact(zgn (x:=[]) (y:=[UInt8.ofNat (48+n)])).symm
 ·have a:kI (n/10) (k+1)=yj (n/10):=by unfold kI;rw[if_neg (by omega)]
  rw[a,zdO (by omega)]
theorem zty{n k:Nat}{s:ByteArray}(h:n=0/\0<k):kI n k++s=s:=by
 unfold kI;rw[if_pos h];apply kS;simp[ByteArray.data_append]
section
variable{S:AS}
theorem zCI{ks:List Kn}{rg:Nat->Option (List AV)}{r:Option (AV×AS)}{R:ByteArray}(G:∀e,e 3=.sc (.string R)->fin [.tmp 2] (unw AA (some (.exit 0,st 28 e rg S)) ks)=r):
 ∀(m k n:Nat) (s:ByteArray) (e:Nat->AV) (tm:List Nat),m+k=20->n<10^m->n<=9223372036854775807->(0<m\/n=0/\0<k)->s.size<=30*k->kI n k++s=R->tm=[5,6,7,8,9,10,11,12,13,14,15,16,17,18,19,20,21,22,23,24,25,26]->
  e 0=.sc (.int .i64 n)->e 3=.sc (.string s)->e 4=.sc (.int .i64 k)->fin [.tmp 2] (zH AA (.loop tm [] zbp) (st 28 e rg S) ks)=r:=by
 intro m
 induction m with
 |zero=>
  intro k n s e tm K A B hp L z a p q t;rw[jG];generalize i:Kn.loop tm [] zbp::ks=H;have u:¬(k:Int)<20:=by omega
  simp[zbp,zn,a,p,t,u];rw[<-i];simp;exact G _ (by simp[zn,q];rw[<-z,zty (by omega)])
 |succ m ih=>
  intro k n s e tm K A B hp L z a p q t;rw[jG];generalize i:Kn.loop tm [] zbp::ks=H;have u:(k:Int)<20:=by omega
  have M:n%10<10:=Nat.mod_lt _ (by omega);by_cases w:0<n\/k=0
  ·have N:IntKind.i64.wrap ((k:Int)+1)=((k+1:Nat):Int):=w64 (by omega);have O:(jF (n%10)).size=1:=rfl;have I:=yz (x:=jF (n%10)) (y:=s) (by omega);have C:(decide ((k:Int)=0)=true\/(0:Int)<n):=by
    rcases w with h|h
    ·right;omega
    ·left;simp[h]
   have j:∀o:Nat->AV,o 0=.sc (.int .i64 ((n/10:Nat):Int))->o 3=.sc (.string (jF (n%10)++s))->o 4=.sc (.int .i64 ((k+1:Nat):Int))->fin [.tmp 2] (unw AA (some (.normal,st 28 o rg S)) H)=r:=by
    intro o P Q T;rw[<-i,vR];refine ih (k+1) (n/10) _ o tm (by omega) ?_ (by omega) ?_ ?_ ?_ a P Q T
    ·rw[Nat.pow_succ]at A;omega
    ·by_cases D:0<m
     ·exact .inl D
     ·have:m=0:=by omega
      subst this;simp at A;right;omega
    ·have:(jF (n%10)++s).size=(jF (n%10)).size+s.size:=xai;omega
    ·rw[<-z,zHK w,zcU]
   have c:pev .bytesStr [AV.lst 1 true [[.sc (.int .u8 (IntKind.u8.wrap (IntKind.i64.wrap (48+(n:Int)%10))))]]]=some (.sc (.string (jF (n%10)))):=by
    rw[show((n:Int)%10)=((n%10:Nat):Int)by omega,zjY M];exact zjp
   have J:=N;simp only[Int.natCast_add,Int.natCast_one]at J;by_cases g:(k:Int)=0
   ·simp[zbp,zn,a,p,q,t,u,g,zjr,zjq B,c,zj,I];exact j _ (by simp[zn]) (by simp[zn]) (by simp[zn,g];decide)
   ·have U:(0:Int)<(n:Int):=by omega
    have l:¬k=0:=by omega
    have E:0<n:=by omega
    simp[zbp,zn,a,p,q,t,u,g,l,E,U,zjr,zjq B,c,zj,I,J];exact j _ (by simp[zn]) (by simp[zn]) (by simp[zn])
  ·have F:n=0:=by omega
   have g:¬(k:Int)=0:=by omega
   subst F;have l:¬k=0:=by omega
   simp[zbp,zn,a,p,t,u,g,l];rw[<-i];simp;exact G _ (by simp[zn,q];rw[<-z,zty (by omega)])
theorem zuc{n:Nat}(a:n<=9223372036854775807):call 249 [.sc (.int .i64 (n:Int))] S=some (.sc (.string (yj n)),S):=by
 rw[zi zwr rfl (by simp) rfl];simp only[zhn];simp[zpO,zn];have c:kI n 0++(⟨#[]⟩:ByteArray)=yj n:=by
  unfold kI;rw[if_neg (by omega)];apply kS;simp[ByteArray.data_append]
 refine(congrArg (zW S) (zCI (R:=yj n) (r:=some (.sc (.string (yj n)),{S with ro:=S.n})) ?_ 20 0 n ⟨#[]⟩ _ _ (by omega) (by omega) a (by omega) (by decide) c rfl (by simp[zn]) (by simp[zn]) (by simp[zn]))).trans ?_
 ·intro e g;simp[zn,g,yD,yN]
 ·simp[kT]
theorem zbH{n:Int}(j: -9223372036854775808<n)(l:n<=9223372036854775807):call 139 [.sc (.int .i64 n)] S=some (.sc (.string (zE n)),S):=by
 rw[zi zvI rfl (by simp) rfl];simp only[zgR];by_cases a:n<0
 ·obtain⟨m,o⟩:∃m:Nat,-n=m:=⟨n.natAbs,by omega⟩;have h:IntKind.i64.wrap (0-n)=(m:Int):=by rw[w64 (by omega)];omega
  have i:IntKind.i64.wrap (-n)=(m:Int):=by rw[w64 (by omega)];omega
  have e:(yj m).size<=m/4+1:=zmd m;have g:=yz (x:=⟨#[45]⟩) (y:=yj m) (by have:(⟨#[45]⟩:ByteArray).size=1:=rfl;omega);have c:(⟨#[45]⟩:ByteArray)++yj m=zE n:=by
   unfold zE Lib.itoa yj;rw[if_pos a,show n.natAbs=m by omega];exact zgn (x:=[45]) (y:=Lib.decDigits m)
  rw[c]at g;simp[zkS,zn,a,h,i,zuc (n:=m) (by omega),g,yD,yN,kT]
 ·obtain⟨m,rfl⟩:∃m:Nat,n=m:=⟨n.toNat,by omega⟩;have c:yj m=zE (m:Int):=by
   unfold zE Lib.itoa yj;rw[if_neg a];rfl
  simp[zkS,zn,a,zuc (n:=m) (by omega),c,yD,yN,kT]
end
section
variable{S:AS}
theorem zBh(n:Int)(a: -9223372036854775808<=n)(c:n<=9223372036854775807):(zE n).size<=4611686018427387000:=by
 unfold zE Lib.itoa;split
 ·have:=zmd n.natAbs;have e:(⟨(45::Lib.decDigits n.natAbs).toArray⟩:ByteArray).size=(yj n.natAbs).size+1:=by
   unfold yj;show(List.toArray _).size=(List.toArray _).size+1;simp
  omega
 ·have:=zmd n.toNat;unfold yj at this;omega
def qG(n:Int):T:=yU (zE n)
theorem s67{n:Int}(c: -9223372036854775808<n)(a:n<=9223372036854775807):call 67 [.sc (.int .i64 n)] S=some (.agg (qG n).cells,S):=by
 have e:=zBh n (by omega) a;rw[zi a67 rfl (by simp) rfl];simp[f67,zq1,zn,qR,setCells,yD,yN,zbH c a,s65 (zE n) (by omega),zkr,qG]
end
theorem zjk:∀x:AV,x.nrm.isReg=x.isReg
 | .sc _| .junk| .opq| .reg _ _| .ptr _ _ _| .iptr _| .arr _ _ _ _ _| .agg _| .tup _| .fn _ _ _| .mp _=>rfl
 | .lst _ _ _=>by rw[AV.nrm];rfl
@[simp] theorem zHT{z:Nat}{S:AS}{r:Nat}{x:AV}:zD z ⟨S.heap,S.n,r⟩ x=zD z S x:=by cases x<;>rfl
@[simp] theorem zOF{S:AS}{r least id sz off n:Nat}:AS.slice ⟨S.heap,S.n,r⟩ least id sz off n=S.slice least id sz off n:=rfl
structure Old(S S':AS):Prop where
 ro:S'.ro=S.ro
 n:S.n<=S'.n
 heap:∀id,id<S.n->S'.heap id=S.heap id
theorem Old.refl(S:AS):Old S S:=⟨rfl,xad _,fun _ _=>rfl⟩
theorem Old.trans{S S' a:AS}(h:Old S S')(c:Old S' a):Old S a:=⟨c.ro.trans h.ro,xaD h.n c.n,fun id e=>(c.heap id (xan e h.n)).trans (h.heap id e)⟩
theorem zfH{S:AS}{o:yX}:Old S (S.new o):=⟨rfl,Nat.le_succ _,fun id h=>if_neg (by omega)⟩
theorem zfI{S S':AS}{id:Nat}{o:Option yX}(h:Old S S')(a:S.n<=id):Old S (S'.set id o):=⟨h.ro,h.n,fun j c=>by
 show(if j=id then _ else S'.heap j)=_;rw[if_neg (by omega)];exact h.heap j c⟩
theorem wk{S:AS}{least id sz:Nat}{rs:List (List AV)}(h:S.heap id=some (.rows sz rs))(a:least<=id):S.slice least id sz 0 rs.length=some rs:=by
 unfold AS.slice;rw[if_pos a,h];simp
theorem jX{S:AS}{o:yX}:(S.new o).heap S.n=some o:=if_pos rfl
section
variable{S:AS}
theorem zzq{x:AV}{S:AS}(a:x.isReg=false):call 256 [x] S=jN 3 48 [x] S:=zbh zws (by simp[a])
theorem zmn{k:Int}{n:ByteArray}{x:AV}{l:List T}(c:x.isReg=false)(g:zD 3 S x.nrm=some (l.map T.cells))(h:l.length*48<=140737488355328):
 call 228 [.sc (.int .i64 k),.sc (.string n),x] S=some (.agg (T.mk k n l).cells,S):=by
 have a:x.nrm.isReg=false:=by rw[zjk];exact c
 rw[kr a228 (args':=[.sc (.int .i64 k),.sc (.string n),x.nrm]) (by simp[c]) (by simp) rfl];have e:=@zog S (AS.new ⟨S.heap,S.n,S.n⟩ (.rows 3 (l.map T.cells))) k n S.n 0 l.length none l (by
  have:=@wk (AS.new ⟨S.heap,S.n,S.n⟩ (.rows 3 (l.map T.cells))) S.n S.n 3 _ jX (xad _);simpa using this)
 generalize j:x.nrm=q at a g;have i:jN 3 48 [q] ⟨S.heap,S.n,S.n⟩=some (.arr S.n 3 0 l.length none,AS.new ⟨S.heap,S.n,S.n⟩ (.rows 3 (l.map T.cells))):=by
  simp[jN,g,h]
 simp only[zhh];simp[-zg,zpI,zzq a,a,i];simpa[-zg]using e
def zP(s:ByteArray):T:=.mk 1 s []
def zB(s:ByteArray):T:=.mk 2 s []
def zS(l:List T):T:=.mk 3 ⟨#[]⟩ l
@[simp] theorem zNe{k:Int}{n:ByteArray}:call 228 [.sc (.int .i64 k),.sc (.string n),.lst 0 true []] S=some (.agg (T.mk k n []).cells,S):=
 zmn (l:=[]) rfl (by simp[AV.nrm,vz,lstN,zD]) (by simp)
theorem zs3{k:Int}{n:ByteArray}{f:Bool}(l:List T)(h:l.length*48<=140737488355328):call 228 [.sc (.int .i64 k),.sc (.string n),.lst 3 f (l.map T.cells)] S=some (.agg (T.mk k n l).cells,S):=
 zmn rfl (by rw[zfB _ _ _ (fun _=>rfl)];exact zjg S l) h
@[simp] theorem zNc{k:Int}{n:ByteArray}{f:Bool}{a:T}:call 228 [.sc (.int .i64 k),.sc (.string n),.lst 3 f [a.cells]] S=some (.agg (T.mk k n [a]).cells,S):=zs3 [a] (by simp)
@[simp] theorem zNd{k:Int}{n:ByteArray}{f:Bool}{a b:T}:call 228 [.sc (.int .i64 k),.sc (.string n),.lst 3 f [a.cells,b.cells]] S=some (.agg (T.mk k n [a,b]).cells,S):=zs3 [a,b] (by simp)
@[simp] theorem zOs(s:ByteArray):call 192 [.sc (.string s)] S=some (.agg (zP s).cells,S):=by
 rw[zi zv1 rfl (by simp) rfl];simp[zg5,zpA,zP]
theorem zGk{x:AV}{l:List T}(a:x.isReg=false)(g:zD 3 S x.nrm=some (l.map T.cells))(i:x.nrm.nrm=x.nrm)(j:l.length*48<=140737488355328):call 126 [x] S=some (.agg (zS l).cells,S):=by
 have c:x.nrm.isReg=false:=by rw[zjk];exact a
 rw[kr zvE (args':=[x.nrm]) (by simp[a]) (by simp) rfl];have e:∀S':AS,zD 3 S' x.nrm=some (l.map T.cells)->call 228 [.sc (.int .i64 3),.sc (.string ⟨#[]⟩),x.nrm] S'=some (.agg (T.mk 3 ⟨#[]⟩ l).cells,S'):=fun S' h=>zmn c (by rw[i];exact h) j;have e:=e ⟨S.heap,S.n,S.n⟩ (by rw[zHT];exact g);generalize x.nrm=q at e c;simp[zgP,zph,e,zS]
attribute [simp] qo
@[simp] theorem zMe{z:Nat}{xs:List (List AV)}{o:Nat->Nat->Nat->Nat->Option (List (List AV))}:(lstN z xs).frz o=(qA o xs).map (lstN z):=by
 cases xs with
 |nil=>rfl
 |cons x xs=>unfold lstN;rw[AV.frz];rfl
@[simp] theorem zMQ{z:Nat}{xs:List (List AV)}:(lstN z xs).pure=qo xs:=by unfold lstN;rw[AV.pure]
def jI(a b:T):T:=.mk 4 ⟨#[]⟩ [a,b]
def yC(a:T):T:=.mk 6 ⟨#[]⟩ [a]
def qq(a:T)(n:ByteArray):T:=.mk 7 n [a]
def wQ(a:T):T:=.mk 8 ⟨#[]⟩ [a]
def zcF(a b:T):T:=.mk 10 ⟨#[]⟩ [a,b]
def zG(s:ByteArray)(l:List T):T:=zS (zP s::l)
@[simp] theorem zOo(s:ByteArray):call 130 [.sc (.string s)] S=some (.agg (zB s).cells,S):=by
 rw[zi zvG rfl (by simp) rfl];simp[zgQ,zpj,zB,T.cells,ym,lstN]
end
section
variable{S:AS}
@[simp] theorem zOk(s:ByteArray):call 122 [.sc (.string s)] S=some (.agg (zB s).cells,S):=by
 rw[zi zvB rfl (by simp) rfl];simp[zgN,zpe,zB]
@[simp] theorem zOn{a b:T}:call 128 [.agg a.cells,.agg b.cells] S=some (.agg (jI a b).cells,S):=by
 rw[zi zvF rfl (by simp) rfl];simp[f128,zpi,jI,T.cells,ym]
@[simp] theorem zOl{a:T}:call 124 [.agg a.cells] S=some (.agg (yC a).cells,S):=by
 rw[zi zvC rfl (by simp) rfl];simp[zgO,zpf,yC,T.cells,ym]
@[simp] theorem zOm{a b:T}:call 125 [.agg a.cells,.agg b.cells] S=some (.agg (zcF a b).cells,S):=by
 rw[zi zvD rfl (by simp) rfl];simp[f125,zpg,zcF,T.cells,ym]
end
section
variable{S:AS}
@[simp] theorem zOz{a:T}:call 360 [.agg a.cells] S=some (.agg (wQ a).cells,S):=by
 rw[zi zxA rfl (by simp) rfl];simp[zh1,zqp,wQ,T.cells,ym]
@[simp] theorem zOA{a b:T}:call 362 [.agg a.cells,.agg b.cells] S=some (.agg (jI a b).cells,S):=by
 rw[zi zxB rfl (by simp) rfl];simp[zh2,zqq,jI,T.cells,ym]
@[simp] theorem zOv{a:T}:call 265 [.agg a.cells] S=some (.agg (yC a).cells,S):=by
 rw[zi zwy rfl (by simp) rfl];simp[zhr,zpS,yC,T.cells,ym]
@[simp] theorem zOr{a:T}:call 173 [.agg a.cells] S=some (.agg (wQ a).cells,S):=by
 rw[zi a173 rfl (by simp) rfl];simp[zg1,zpw,wQ,T.cells,ym]
@[simp] theorem zOq{a b:T}:call 172 [.agg a.cells,.agg b.cells] S=some (.agg (zcF a b).cells,S):=by
 rw[zi zvY rfl (by simp) rfl];simp[f172,zpv,zcF,T.cells,ym]
@[simp] theorem zOx{a:T}{n:ByteArray}:call 312 [.agg a.cells,.sc (.string n)] S=some (.agg (qq a n).cells,S):=by
 rw[zi zw2 rfl (by simp) rfl];simp[zhH,zp8,qq,T.cells,ym]
@[simp] theorem zOu{a:T}{n:ByteArray}:call 259 [.agg a.cells,.sc (.string n)] S=some (.agg (qq a n).cells,S):=by
 rw[zi zwt rfl (by simp) rfl];simp[zho,zpP,qq,T.cells,ym]
end
@[simp] theorem zNn{z:Nat}{xs:List (List AV)}:pev .cap [.lst z true xs]=some (.sc (.int .i64 xs.length)):=rfl
@[simp] theorem zN3{z:Nat}:pev (.sliceL z false true false) [.lst 0 true [],.sc (.int .i64 0)]=some (.lst z true []):=by simp[pev,zM]
theorem zGz{z id off len h:Nat}{lim:Option Nat}(a:h<=len):pev (.sliceL z false true false) [.arr id z off len lim,.sc (.int .i64 (h:Int))]=some (.arr id z off h lim):=by
 have:((h:Int)<=(len:Int)):=by omega
 simp[pev,zM,this]
def zT:List AV:=[.i 0,.s ⟨#[]⟩,.lst 0 true []]
section
variable{S:AS}
theorem zGm{n:Nat}(o:n*48<=140737488355328):call 304 [.lst 0 true [],.sc (.int .i64 (n:Int))] S=
 if n=0 then some (.lst 0 true [],S)else some (.arr S.n 3 0 0 none,S.new (.rows 3 (List.replicate n zT))):=by
 rw[z8 zw0 rfl rfl];have a:IntKind.i64.wrap ((n:Int))=n:=w64 (by omega);have g:¬(n:Int)<0:=by omega
 by_cases h:n=0
 ·subst h;simp[zeV,zk9,a];rfl
 ·have j:(0:Int)<n:=by omega
  have c:0<n:=by omega
  have e:ze (.appendZ 3 48 [.i 0,.s ⟨#[]⟩,.lst 0 true []]) (some 22) (fun _=>none) S [.lst 3 true [],.sc (.int .i64 (n:Int))]=some (.arr S.n 3 0 n none,none,S.new (.rows 3 (List.replicate n zT))):=by
   have:(n:Int)*48<=140737488355328:=by omega
   simp[ze,c,this,zT]
  have l:pev (.sliceL 3 false true false) [.arr S.n 3 0 n none,.sc (.int .i64 0)]=some (.arr S.n 3 0 0 none):=zGz (h:=0) (by omega);have m:IntKind.i64.wrap 0=0:=rfl;simp[zeV,zk9,a,m,g,j,h,c,e,l]
inductive zbS(S:AS)(sz:Nat):List AV->List (List (List AV))->Prop
 |nil:zbS S sz [] []
 |cons{x:AV}{l:List (List AV)}{xs:List AV}{ls:List (List (List AV))}(hr:x.isReg=false)(hl:pev .lenL [x]=some (.sc (.int .i64 l.length)))(hx:∀S',Old S S'->zD sz S' x=some l)(h:zbS S sz xs ls):zbS S sz (x::xs) (l::ls)
theorem zbS.get{sz:Nat}{xs:List AV}{c:List (List (List AV))}(h:zbS S sz xs c):xs.length=c.length/\∀i (a:i<xs.length),∃x l,xs[i]?=some x/\c[i]?=some l/\x.isReg=false/\pev .lenL [x]=some (.sc (.int .i64 l.length))/\∀S',Old S S'->zD sz S' x=some l:=by
 induction h with
 |nil=>exact⟨rfl,fun i a=>by simp at a⟩
 |cons hr hl hx h ih=>
  refine⟨by simp[ih.1],fun i a=>?_⟩;cases i with
  |zero=>exact⟨_,_,rfl,rfl,hr,hl,hx⟩
  |succ i=>simpa using ih.2 i (by simpa using a)
theorem zKn{z:Nat}{f:Bool}{xs:List (List AV)}:∀S',Old S S'->zD z S' (.lst z f xs)=some xs:=fun S' _=>zl5 S' z f xs
structure Grow(S S':AS)(v:AV)(acc:List (List AV))(N:Nat):Prop where
 old:Old S S'
 ro:S'.ro<=S.n
 h:(v=.lst 0 true []/\acc=[]/\N=0)\/∃id rest,v=.arr id 3 0 acc.length none/\S'.heap id=some (.rows 3 (acc++rest))/\N<=acc.length+rest.length/\S.n<=id/\id<S'.n
theorem Grow.app{S S':AS}{v:AV}{a ys:List (List AV)}{N:Nat}{x:AV}{d:Option Nat}{rg:Nat->Option (List AV)}(h:Grow S S' v a N)(m:a.length+ys.length<=N)(j:zD 3 S' x=some ys):
 ∃i e,ze (.append 3 48) d rg S' [v,x]=some (i,none,e)/\Grow S e i (a++ys) N/\i.isReg=false/\∃id,i=.arr id 3 0 (a.length+ys.length) none:=by
 rcases h.h with⟨rfl,rfl,rfl⟩|⟨id,rest,rfl,o,p,c,g⟩
 ·obtain rfl:ys=[]:=List.eq_nil_of_length_eq_zero (by omega);refine⟨.arr S'.n 3 0 0 none,S'.new (.rows 3 []),by simp[ze,j,jq],⟨h.old.trans zfH,h.ro,.inr ⟨S'.n,[],rfl,jX,by simp,h.old.n,xay _⟩⟩,rfl,_,rfl⟩
 ·cases ys with
  |nil=>exact⟨.arr id 3 0 a.length none,S',by simp[ze,j,jq],⟨h.old,h.ro,.inr ⟨id,rest,by simp,by simpa using o,by simpa using p,c,g⟩⟩,rfl,id,by simp⟩
  |cons y ys=>
   have l:¬id<S'.ro:=by have:=h.ro;omega
   have q:¬a.length+rest.length<a.length:=by omega
   have r:a.length+(ys.length+1)<=a.length+rest.length:=by simp at m;omega
   refine⟨.arr id 3 0 (a.length+(y::ys).length) none,S'.set id (some (.rows 3 (qF (a++rest) a.length (y::ys)))),?_,⟨zfI h.old c,h.ro,.inr ⟨id,rest.drop (ys.length+1),by simp,?_,?_,c,g⟩⟩,rfl,id,rfl⟩
   ·simp[ze,j,jq,o,l];intro s;omega
   ·show(if id=id then _ else _)=_;rw[if_pos rfl];simp[qF,List.append_assoc]
   ·simp at m ⊢;omega
def y4(a:List (List (List AV))):List (List AV):=a.flatten
theorem zuU{a:List (List (List AV))}{i:Nat}{l:List (List AV)}(h:a[i]?=some l):y4 (a.take (i+1))=y4 (a.take i)++l:=by
 unfold y4;rw[xav,h];simp
theorem zoh{a:List (List (List AV))}{i:Nat}:(y4 (a.take i)).length<=(y4 a).length:=by
 have:y4 a=y4 (a.take i)++y4 (a.drop i):=by
  unfold y4;rw[<-List.flatten_append,List.take_append_drop]
 rw[this,xaC];exact Nat.le_add_right _ _
@[simp] theorem zKZ:y4 []=[]:=rfl
@[simp] theorem zKY{l:List (List AV)}{a:List (List (List AV))}:y4 (l::a)=l++y4 a:=by simp[y4]
theorem zGl{S:AS}{f:Bool}{xs:List AV}{a:List (List (List AV))}(h:zbS S 3 xs a)(M:xs≠[])(ac:xs.length<=4611686018427387904)(hb:(y4 a).length*48<=140737488355328)(C:S.ro<=S.n):
 ∃id rest S',call 191 [.lst 1 f (xs.map fun x=>[x])] S=some (.arr id 3 0 (y4 a).length none,S')/\Old S S'/\S.n<=id/\S'.heap id=some (.rows 3 (y4 a++rest))/\id<S'.n:=by
 obtain⟨hl,j⟩:=h.get;rw[z8 zv0 rfl rfl];simp only[zg4];have N:((xs.map fun x=>[x]).length:Int)=(xs.length:Int):=by simp
 let O:Option (AV×AS)->Prop:=fun r=>∃id rest S',r=some (.arr id 3 0 (y4 a).length none,S')/\Old S S'/\S.n<=id/\S'.heap id=some (.rows 3 (y4 a++rest))/\id<S'.n
 show O _;simp[zpz];refine y8 (α:=Nat) (R:=fun _=>O) (fun i e rg S'=>i<=xs.length/\S'=S/\e 0=.lst 1 f (xs.map fun x=>[x])/\e 3=.sc (.int .i64 ((y4 (a.take i)).length:Nat))/\e 9=.lst 1 f (xs.map fun x=>[x])/\e 10=.sc (.int .i64 (xs.length:Nat))/\e 11=.sc (.int .i64 (i:Nat))) (fun i=>xs.length-i) ?_ 0 _ _ _ ?_;rotate_left
 ·simp
 intro kk q i e rg S' ⟨hi,hS,z,P,h9,s,D⟩ ih;subst hS;by_cases E:i<xs.length
 ·obtain⟨x,l,Q,t,T,F,m⟩:=j i E;have U:pev (.iaddr 1) [.lst 1 f (xs.map fun x=>[x]),.sc (.int .i64 (i:Int))]=some (.iptr [x]):=by
   rw[zaX (by omega)];simp[Q]
  have c:=zuU t;have g:=@zoh a (i+1);have w1:IntKind.i64.wrap (((y4 (a.take i)).length:Int)+(l.length:Int))=((y4 (a.take (i+1))).length:Nat):=by
   rw[c,xaC];rw[c,xaC]at g;rw[w64 (by omega)];omega
  have V:IntKind.i64.wrap ((i:Int)+1)=((i+1:Nat):Int):=w64 (by omega);have G:¬(((y4 (a.take (i+1))).length:Nat):Int)<0:=by omega
  generalize hA:(y4 (a.take i)).length=A at *;generalize hB:(y4 (a.take (i+1))).length=B at *;simp[zkW,P,h9,s,D,E,U,T,F,w1,V,G];refine ih (i+1) _ _ _ (by omega) (fun _ h=>h) ⟨by omega,rfl,?_⟩;simp[z,h9,s,hB]
 ·have u:i=xs.length:=by omega
  subst u;have w:(y4 (a.take xs.length)).length=(y4 a).length:=by rw[hl,xax]
  rw[w]at P;simp[zkW,s,D];rw[q];obtain⟨v,W,hv,o,H⟩:∃v W,call 304 [.lst 0 true [],.sc (.int .i64 (((y4 a).length:Nat):Int))] S'=some (v,W)/\Grow S' W v [] (y4 a).length/\v.isReg=false:=by
   rw[zGm hb];by_cases z:(y4 a).length=0
   ·exact⟨_,_,if_pos z,⟨Old.refl _,C,.inl ⟨rfl,rfl,z⟩⟩,rfl⟩
   ·exact⟨_,_,if_neg z,⟨zfH,C,.inr ⟨_,_,rfl,jX,by simp,xad _,xay _⟩⟩,rfl⟩
  simp[P,hv,H,z];refine y8 (α:=Nat) (R:=fun _=>O) (fun i e rg S2=>i<=xs.length/\Grow S' S2 (e 6) (y4 (a.take i)) (y4 a).length/\(e 6).isReg=false/\(0<i->∃id,e 6=.arr id 3 0 (y4 (a.take i)).length none)/\e 25=.lst 1 f (xs.map fun x=>[x])/\e 26=.sc (.int .i64 (xs.length:Nat))/\e 27=.sc (.int .i64 (i:Nat))) (fun i=>xs.length-i) ?_ 0 _ _ _ ?_;rotate_left
  ·simp[H,o]
  intro kk q i e rg S2 ⟨hi,o,X,Y,I,y,J⟩ ih;by_cases E:i<xs.length
  ·obtain⟨x,l,Q,t,T,F,m⟩:=j i E;have U:pev (.iaddr 1) [.lst 1 f (xs.map fun x=>[x]),.sc (.int .i64 (i:Int))]=some (.iptr [x]):=by
    rw[zaX (by omega)];simp[Q]
   have c:=zuU t;have g:=@zoh a (i+1);have V:IntKind.i64.wrap ((i:Int)+1)=((i+1:Nat):Int):=w64 (by omega);obtain⟨v',S3,ha,K,p,L⟩:=o.app (d:=some 33) (rg:=rg) (ys:=l) (x:=x) (by rw[c,xaC]at g;omega) (m _ o.old);rw[<-c]at K;rw[<-xaC,<-c]at L;simp[zkV,I,y,J,E,U,T,X,ha,p,V];refine ih (i+1) _ _ _ (by omega) (fun _ h=>h) ⟨by omega,?_⟩;simp[I,y,K,p,L]
  ·have u:i=xs.length:=by omega
   subst u;obtain⟨id,Z⟩:=Y (by cases xs with|nil=>exact absurd rfl M|cons _ _=>simp);rw[hl,xax]at Z o;rw[Z]at o;simp[zkV,y,J];rw[q];simp[Z];rcases o.h with⟨h,_⟩|⟨ad,rest,h,hh,_,aa,ab⟩
   ·cases h
   ·cases h;exact⟨_,_,_,rfl,o.old,aa,hh,ab⟩
end
structure qs(S:AS)(x:AV)(l:List T):Prop where
 reg:x.isReg=false
 len:pev .lenL [x.nrm]=some (.sc (.int .i64 l.length))
 nn:x.nrm.nrm=x.nrm
 rows:∀S':AS,(∀id,id<S.n->S'.heap id=S.heap id)->zD 3 S' x.nrm=some (l.map T.cells)
section
variable{S:AS}
theorem qs.nrm{x:AV}{l:List T}(h:qs S x l):qs S x.nrm l:=
 ⟨by rw[zjk];exact h.reg,by rw[h.nn];exact h.len,by rw[h.nn,h.nn],fun S' a=>by rw[h.nn];exact h.rows S' a⟩
theorem k9{f:Bool}{l:List T}:qs S (.lst 3 f (l.map T.cells)) l:=by
 have e:(AV.lst 3 f (l.map T.cells)).nrm=zh l:=zfB _ _ _ fun _=>rfl;exact⟨rfl,by rw[e];simp,by rw[e];simp,fun S' _=>by rw[e];exact zjg S' l⟩
theorem zft{z:Nat}{f:Bool}:qs S (.lst z f []) []:=by
 have e:(AV.lst z f []).nrm=zh []:=zfB z f [] (by simp);exact⟨rfl,by rw[e];simp,by rw[e];simp,fun S' _=>by rw[e];exact zjg S' []⟩
theorem zrU{id off n:Nat}{lim:Option Nat}{l:List T}(h:S.slice 0 id 3 off n=some (l.map T.cells))(a:id<S.n)(c:n=l.length):qs S (.arr id 3 off n lim) l:=by
 refine⟨rfl,by subst c;rfl,rfl,fun S' e=>?_⟩;show zD 3 S' (.arr id 3 off n lim)=_;simp only[zD,if_true];unfold AS.slice at h ⊢;rw[e id a];exact h
theorem qs.r0{x:AV}{l:List T}(h:qs S x l):zD 3 S x.nrm=some (l.map T.cells):=h.rows S fun _ _=>rfl
theorem zdY{x:AV}{l:List T}(h:qs S x l)(a:l.length*48<=140737488355328):call 126 [x] S=some (.agg (zS l).cells,S):=zGk h.reg h.r0 h.nn a
theorem p62{s:ByteArray}{x:AV}{l:List T}(h:qs S x l)(w:(l.length+1)*48<=140737488355328):call 62 [.sc (.string s),x] S=some (.agg (zG s l).cells,S):=by
 rw[kr a62 (args':=[.sc (.string s),x.nrm]) (by simp[h.reg]) (by simp) rfl];have e:=h.nrm;have a:=h.nn;generalize x.nrm=y at e a;have j:zbS ⟨S.heap,S.n,S.n⟩ 3 [.lst 3 true [(zP s).cells],y] [[(zP s).cells],l.map T.cells]:=by
  refine .cons rfl rfl zKn (.cons e.reg ?_ (fun S' q=>?_) .nil)
  ·have:=e.len;rw[a]at this;rw[this];simp
  ·have:=e.rows S' q.heap;rw[a]at this;exact this
 obtain⟨id,rest,S',m,q,t,u,o⟩:=zGl (f:=true) j (by simp) (by simp) (by simp<;>omega) (xad _);have p:qs S' (.arr id 3 0 (y4 [[(zP s).cells],l.map T.cells]).length none) (zP s::l):=by
  refine zrU ?_ o (by simp<;>omega);unfold AS.slice;rw[if_pos (Nat.zero_le _),u];simp
  try (intro z;omega)
 have r:=zdY p (by simp<;>omega);have i:=e.reg;have g:y.isCell=true:=by
  have:=e.r0;rw[a]at this;cases y<;>first|rfl|(simp[zD]at this)
 have c:y.cells=[y]:=by
  have:=e.r0;rw[a]at this;cases y<;>first|rfl|(simp[zD]at this)
 simp only[xao,List.map_nil]at m;generalize y4 [[(zP s).cells],l.map T.cells]=A at m r;simp[f62,zqW,i,c,g,zj,m,r,zG]
end
section
variable{S:AS}
theorem ld_rows{S:AS}{id row sz:Nat}{rs:List (List AV)}{r:List AV}{d:Option Nat}{rg:Nat->Option (List AV)}{z:Nat}(a:S.heap id=some (.rows z rs))(c:rs[row]?=some r)(e:r.length=sz):ze (.ld none sz true) d rg S [.ptr id row 0]=some (.agg r,none,S):=by
 rw[zY a,c];subst e;simp
theorem qs.at{x:AV}{l:List T}(h:qs S x l){i:Nat}{t:T}(j:l[i]?=some t):∃p,pev (.iaddr 3) [x.nrm,.sc (.int .i64 (i:Int))]=some p/\p.isReg=false/\
 ∀S':AS,(∀id,id<S.n->S'.heap id=S.heap id)->∀d rg,ze (.ld none 3 true) d rg S' [p]=some (.agg t.cells,none,S'):=by
 have g:i<l.length:=(xal.1 j).1;have m:=h.rows;have o:=h.len;generalize x.nrm=y at m o ⊢;have c:=m S fun _ _=>rfl;cases y with
 |lst z f xs=>
  simp only[zD]at c;split at c
  ·rename_i e;cases c;have q:(l.map T.cells).isEmpty=false:=by cases l with
    |nil=>simp at g
    |cons _ _=>rfl
   rw[q]at e;have e:z=3:=by simpa using e
   subst e;exact⟨.iptr t.cells,by simp[pev,j],rfl,fun S' _ d rg=>by simp⟩
  ·cases c
 |arr id z off n lim=>
  simp only[zD]at c;split at c
  ·rename_i e;subst e;have u:n=l.length:=by
    have o:(n:Int)=(l.length:Int):=by simpa using o
    omega
   refine⟨.ptr id (off+i) 0,by simp[pev];omega,rfl,fun S' r d rg=>?_⟩;have a:=m S' r;simp only[zD,if_true]at a;unfold AS.slice at a;simp only[Nat.zero_le,if_true]at a;split at a
   ·rename_i w rs s;split at a
    ·rename_i A;simp only[Option.some.injEq]at a;have:((rs.drop off).take n)[i]?=some t.cells:=by rw[a];simp[j]
     rw[xaq,if_pos (by omega),List.getElem?_drop]at this;exact ld_rows s this (by simp)
    ·cases a
   ·cases a
  ·cases c
 |_=>simp[zD]at c
structure Own(S0 S':AS)(sz:Nat)(v:AV)(rs:List (List AV)):Prop where
 old:Old S0 S'
 ro:S'.ro<=S0.n
 h:(∃z,v=.lst z true rs/\(rs=[]\/z=sz))\/∃id,v=.arr id sz 0 rs.length none/\S'.heap id=some (.rows sz rs)/\S0.n<=id/\id<S'.n
section
variable{S0 S':AS}{sz:Nat}{v:AV}{rs:List (List AV)}
theorem Own.reg(h:Own S0 S' sz v rs):v.isReg=false:=by rcases h.h with⟨z,rfl,_⟩|⟨id,rfl,_⟩<;>rfl
theorem Own.cell(h:Own S0 S' sz v rs):v.isCell=true:=by rcases h.h with⟨z,rfl,_⟩|⟨id,rfl,_⟩<;>rfl
theorem Own.cells(h:Own S0 S' sz v rs):v.cells=[v]:=by rcases h.h with⟨z,rfl,_⟩|⟨id,rfl,_⟩<;>rfl
theorem zcB(a:S0.ro<=S0.n):Own S0 S0 sz (.lst 0 true []) []:=⟨Old.refl _,a,.inl ⟨0,rfl,.inl rfl⟩⟩
theorem zmm(a:S0.ro<=S0.n):Own S0 S0 sz (.lst sz true rs) rs:=⟨Old.refl _,a,.inl ⟨sz,rfl,.inr rfl⟩⟩
theorem Own.app(h:Own S0 S' sz v rs){ys:List (List AV)}{x:AV}{bytes:Nat}{d:Option Nat}{rg:Nat->Option (List AV)}(g:zD sz S' x=some ys)(l:ys≠[])(i:(rs.length+ys.length)*bytes<=140737488355328):
 ∃j a,ze (.append sz bytes) d rg S' [v,x]=some (j,none,a)/\Own S0 a sz j (rs++ys):=by
 cases ys with
 |nil=>exact absurd rfl l
 |cons y ys=>
  rcases h.h with⟨z,rfl,m⟩|⟨id,rfl,o,c,p⟩
  ·refine⟨.arr S'.n sz 0 (rs++y::ys).length none,S'.new (.rows sz (rs++y::ys)),?_,⟨h.old.trans zfH,h.ro,.inr ⟨S'.n,rfl,jX,h.old.n,xay _⟩⟩⟩;have e:(rs.isEmpty||z==sz)=true:=by
    rcases m with rfl|rfl<;>simp
   simp only[ze,g,xae,jq,List.isEmpty_cons,xau,if_false,e,Bool.true_and,i,decide_true,if_true,xam,xaC]
  ·have q:¬id<S'.ro:=by have:=h.ro;omega
   refine⟨.arr S'.n sz 0 (rs++y::ys).length none,(S'.set id none).new (.rows sz (rs++y::ys)),?_,⟨(zfI h.old c).trans zfH,h.ro,.inr ⟨S'.n,rfl,jX,h.old.n,xay _⟩⟩⟩;simp only[ze,g,xae,jq,List.isEmpty_cons,xau,if_false,o];rw[if_neg (by simp;omega),if_neg (by simp),if_pos ⟨trivial,i⟩];simp
theorem Own.push(h:Own S0 S' sz v rs){r:List AV}{bytes n:Nat}{f:Bool}{d:Option Nat}{rg:Nat->Option (List AV)}(g:rs.length=n)(i:(n+1)*bytes<=140737488355328):
 ∃c a,ze (.append sz bytes) d rg S' [v,.lst sz f [r]]=some (c,none,a)/\Own S0 a sz c (rs++[r])/\c.isReg=false/\c.isCell=true/\c.cells=[c]:=by
 obtain⟨c,a,j,e⟩:=h.app (d:=d) (rg:=rg) (bytes:=bytes) (ys:=[r]) (x:=.lst sz f [r]) (zl5 ..) (by simp) (by subst g;exact i);exact⟨c,a,j,e,e.reg,e.cell,e.cells⟩
theorem Own.frz(h:Own S0 S' sz v rs){a:List (List AV)}{b d:Nat}(m:b<=S0.n)(e:zI (zI (S'.frzTo b d)) rs=some a)(c:zI (zI (S'.frzTo b (d+1))) rs=some a):S'.frzTo b (d+1) v=some (lstN sz a):=by
 rcases h.h with⟨z,rfl,g⟩|⟨id,rfl,i,j,l⟩
 ·rw[ziR,c];rcases g with rfl|rfl
  ·cases c;rfl
  ·rfl
 ·rw[ziQ (wk i (by omega)),e];rfl
theorem Own.frzT{l:List T}(h:Own S0 S' 3 v (l.map T.cells)){b d:Nat}(a:b<=S0.n):S'.frzTo b (d+1) v=some (zh l):=h.frz a (by simp) (by simp)
theorem Own.frzS{l:List ByteArray}(h:Own S0 S' 1 v (zv l)){b d:Nat}(a:b<=S0.n):S'.frzTo b (d+1) v=some (zk l):=h.frz a (by simp) (by simp)
theorem Own.frzI{l:List Int}(h:Own S0 S' 1 v (zV l)){b d:Nat}(a:b<=S0.n):S'.frzTo b (d+1) v=some (yi l):=h.frz a (by simp) (by simp)
theorem Own.isTs{l:List T}(h:Own S0 S' 3 v (l.map T.cells)):qs S' v l:=by
 rcases h.h with⟨z,rfl,a⟩|⟨id,rfl,e,g,c⟩
 ·rcases a with a|rfl
  ·cases l with
   |nil=>exact zft
   |cons _ _=>simp at a
  ·exact k9
 ·exact zrU (wk e (Nat.zero_le _)) c (by simp)
end
end
section
variable{S:AS}
theorem zKf{l:List T}{i:Nat}{t:T}(h:l[i]?=some t):(l.take (i+1)).map T.cells=(l.take i).map T.cells++[t.cells]:=by
 rw[xav,h];simp
theorem yV{α:Type}{l:List α}{i:Nat}(h:i<l.length):∃t,l[i]?=some t:=⟨l[i],by simp[h]⟩
theorem p63{s:ByteArray}{x:AV}{l:List T}(h:qs S x l)(O:(l.length+1)*48<=140737488355328):call 63 [.sc (.string s),x] S=some (.agg (zG s l).cells,S):=by
 rw[kr a63 (args':=[.sc (.string s),x.nrm]) (by simp[h.reg]) (by simp) rfl];have w:=h.nrm;have j:=h.nn;generalize x.nrm=y at w j;have q:=w.reg;have c:=w.len;rw[j]at c;simp only[f63];simp[-zg,zqX,zj,q];rw[show(some (AV.agg (zG s l).cells,S):Option (AV×AS))=zW S (some (AV.agg (zG s l).cells,S))by simp]
 let S0:AS:=⟨S.heap,S.n,S.n⟩
 refine y8 (α:=Nat) (R:=fun _ r=>zW S r=zW S (some (.agg (zG s l).cells,S))) (fun i e rg S'=>i<=l.length/\e 1=y/\e 4=.reg 4 0/\(rg 4).isSome/\(∃z,rg 4=some z/\z.length=3)/\e 5=.reg 5 0/\e 6=.sc (.int .i64 (i:Nat))/\∃v,rg 5=some [.sc (.int .i64 3),.sc (.string ⟨#[]⟩),v]/\Own S0 S' 3 v ((zP s::l.take i).map T.cells)) (fun i=>l.length-i) ?_ 0 _ _ _ ?_;rotate_left
 ·refine⟨by omega,by simp,by simp,by simp,⟨_,by simp;rfl,rfl⟩,by simp,by simp,_,by simp;rfl,?_⟩;exact zmm (xad _)
 intro P B i e rg S' ⟨Q,A,G,_,⟨z,C,u⟩,h5,h6,v,h7,hO⟩ ih;by_cases H:i<l.length
 ·obtain⟨t,I⟩:=yV H;obtain⟨p,hp,D,m⟩:=w.at I;rw[j]at hp;have m:=m S' (fun id E=>hO.old.heap id E) (some 22);have U:((zP s::l.take i).map T.cells).length=i+1:=by
   rw[xaH,xaI,List.length_take];omega
  obtain⟨J,K,L,o⟩:=hO.app (bytes:=48) (ys:=[t.cells]) (x:=.lst 3 true [t.cells]) (d:=some 24) (rg:=rg) (zl5 ..) (by simp) (by have A:[t.cells].length=1:=rfl;omega);have M:IntKind.i64.wrap ((i:Int)+1)=((i+1:Nat):Int):=w64 (by omega);have a:=o.cell;have g:=o.cells;simp[-zg,zlx,A,h5,h6,c,H,h7,hp,D,m,L,M,a,g,zj];refine ih (i+1) _ _ _ (by omega) (fun _ h=>h) ?_;refine⟨by omega,by simp[A],by simp[G],by simp[C],⟨z,by simp[C],u⟩,by simp[h5],by simp,J,by simp,?_⟩;rw[xao,zKf I];exact o
 ·have F:i=l.length:=by omega
  subst F;rw[xax]at hO;simp[-zg,zlx,A,h6,c];rw[B];have a:=hO.cell;have N:=hO.frzT (l:=zP s::l) (b:=S.n) (d:=1) (xad _)
  match z,u with
  |[z1,z2,z3],_=>
   simp[G,h5,h7,C,a,N,zG,zS,T.cells,ym,wj,zh]
theorem zGx{s:ByteArray}(a:s.size<=4611686018427387904):pev (.bin .add) [.sc (.string ⟨#[61]⟩),.sc (.string s)]=some (.sc (.string (eqB s))):=zs9 a
theorem s64{s:ByteArray}(a:s.size<=4611686018427387904):call 64 [.sc (.string s)] S=some (.agg (yU s).cells,S):=by
 rw[zi a64 rfl (by simp) rfl];simp[f64,zqY,zGx a];rfl
def jp(l:List ByteArray):List T:=l.map yU
end
theorem zcy:∀(k n:Nat),n<10^(k+1)->(yj n).size<=k+1
 |0,n,h=>by
  rw[zcz (by omega)];exact xad _
 |k+1,n,h=>by
  by_cases a:n<10
  ·rw[zcz a];show 1<=_;omega
  ·rw[zdO (by omega),xai];have:=zcy k (n/10) (by rw[Nat.pow_succ]at h;omega);have c:(jF (n%10)).size=1:=rfl;omega
theorem vN{n:Int}(a: -9223372036854775808<=n)(c:n<=9223372036854775807):(zE n).size<=20:=by
 unfold zE Lib.itoa;split
 ·have:=zcy 18 n.natAbs (by omega);have e:(⟨(45::Lib.decDigits n.natAbs).toArray⟩:ByteArray).size=(yj n.natAbs).size+1:=by
   unfold yj;show(List.toArray _).size=(List.toArray _).size+1;simp
  omega
 ·have:=zcy 18 n.toNat (by omega);unfold yj at this;omega
def jd(s p:ByteArray):Option ByteArray:=if s.extract 0 p.size=p then some (s.extract p.size s.size)else none
theorem zkA{s p r:ByteArray}:jd s p=some r↔s=p++r:=by
 unfold jd;constructor
 ·intro h;split at h
  ·rename_i c;cases h;have a:p.size<=s.size:=by
    have:=congrArg ByteArray.size c;rw[ByteArray.size_extract]at this;omega
   conv=>rhs;lhs;rw[<-c]
   rw[<-ByteArray.extract_eq_extract_append_extract _ (Nat.zero_le _) a,ByteArray.extract_zero_size]
  ·cases h
 ·rintro rfl;rw[if_pos (ByteArray.extract_append_eq_left rfl),ByteArray.extract_append_eq_right rfl (by rw[xai])]
theorem zkx{p r:ByteArray}:jd (p++r) p=some r:=zkA.2 rfl
theorem zkz{s p r:ByteArray}(h:jd s p=some r):s.size=p.size+r.size:=by rw[zkA.1 h,xai]
section
variable{S:AS}
theorem zm1{s p:ByteArray}:call 398 [.sc (.string s),.sc (.string p)] S=some (.sc (.bool (jd s p).isSome),S):=by
 rw[zi zxX rfl (by simp) rfl];unfold jd;by_cases h:p.size<=s.size
 ·have c:(p.size:Int)<=s.size:=by omega
  have e:=zmp (s:=s) (n:=(p.size:Int)) (by omega) c;rw[Int.toNat_natCast]at e;by_cases a:s.extract 0 p.size=p
  ·simp[zdr,zim,h,e,a]
  ·simp[zdr,zim,h,e,a]
 ·have a:s.extract 0 p.size≠p:=by
   intro a;have:=congrArg ByteArray.size a;rw[ByteArray.size_extract]at this;omega
  simp[zdr,zim,h,a]
def qu(s:ByteArray):Option ByteArray->AV
 |some r=>.tup [.sc (.string r),.sc (.bool true)]
 |none=>.tup [.sc (.string s),.sc (.bool false)]
theorem zuh{s p:ByteArray}:call 306 [.sc (.string s),.sc (.string p)] S=some (qu s (jd s p),S):=by
 rw[zi zw1 rfl (by simp) rfl];have e:=@zm1;cases a:jd s p with
 |none=>simp[zeW,zla,zm1,a,qu]
 |some r=>
  have g:=zkz a;have c:(p.size:Int)<=s.size:=by omega
  have e:=zmq (s:=s) (n:=(p.size:Int)) (by omega) c;rw[Int.toNat_natCast]at e;have er:s.extract p.size s.size=r:=by
   unfold jd at a;split at a
   ·cases a;rfl
   ·cases a
  rw[er]at e;simp[zeW,zla,zm1,a,e,qu]
theorem zed{s p:ByteArray}:call 195 [.sc (.string s),.sc (.string p)] S=some (qu s (jd s p),S):=by
 rw[zi zv4 rfl (by simp) rfl];cases a:jd s p with
 |none=>simp[zeN,zkX,zuh,a,qu]
 |some r=>simp[zeN,zkX,zuh,a,qu]
def v8(t:T):Bool:=decide (t.kind=1)&&decide (t.kids.length=0)
theorem zec{t:T}:call 194 [.agg t.cells] S=some (.tup [.sc (.string t.name),.sc (.bool (v8 t))],S):=by
 unfold v8;rw[zi zv3 rfl (by simp) rfl];by_cases a:t.kind=1
 ·by_cases c:t.kids.length=0
  ·have e:(t.kids.length:Int)=0:=by omega
   simp[zdd,zg6,a,c]
  ·have e:¬(t.kids.length:Int)=0:=by omega
   simp[zdd,zg6,a,c]
 ·simp[zdd,zg6,a]
def jh(o:Option ByteArray):AV:=.tup [.sc (.string (o.getD ⟨#[]⟩)),.sc (.bool o.isSome)]
def j6(t:T):Option ByteArray:=if v8 t then jd t.name ⟨#[61]⟩else none
theorem s85{t:T}:call 85 [.agg t.cells] S=some (jh (j6 t),S):=by
 rw[zi a85 rfl (by simp) rfl];unfold j6;cases h:v8 t with
 |true=>
  cases a:jd t.name ⟨#[61]⟩with
  |none=>simp[f85,zfi,zec,zed,h,a,qu,jh]
  |some r=>simp[f85,zfi,zec,zed,h,a,qu,jh]
 |false=>
  cases a:jd t.name ⟨#[61]⟩with
  |none=>simp[f85,zfi,zec,zed,h,a,qu,jh]
  |some r=>simp[f85,zfi,zec,zed,h,a,qu,jh]
theorem zzP{s:ByteArray}:jd s ⟨#[61]⟩=if s.data[0]?=some 61 then some (s.extract 1 s.size)else none:=by
 obtain⟨⟨l⟩⟩:=s;unfold jd;show(if ByteArray.extract ⟨⟨l⟩⟩ 0 1=_ then some (ByteArray.extract ⟨⟨l⟩⟩ 1 _)else none)=_;cases l with
 |nil=>
  rw[if_neg,if_neg]
  ·simp
  ·intro h;have:=congrArg ByteArray.size h;rw[ByteArray.size_extract]at this;have c:(⟨⟨[]⟩⟩:ByteArray).size=0:=rfl;have a:(⟨#[61]⟩:ByteArray).size=1:=rfl;omega
 |cons b l=>
  by_cases h:b=61
  ·subst h;rw[if_pos,if_pos]
   ·simp
   ·apply kS;simp[ByteArray.data_extract]
  ·rw[if_neg,if_neg]
   ·simpa using h
   ·intro a;have:=congrArg (fun x=>x.data.toList) a;simp[ByteArray.data_extract]at this;exact h this
theorem s86{t:T}:call 86 [.agg t.cells] S=some (jh (j6 t),S):=by
 rw[zi a86 rfl (by simp) rfl];unfold j6 v8;rw[zzP];by_cases a:t.kind=1
 ·by_cases e:t.kids.length=0
  ·by_cases g:t.name=⟨#[]⟩
   ·simp[f86,zdv,a,e,g,jh]
   ·have j:0<t.name.size:=by
     apply Classical.byContradiction;intro w;apply g;have:t.name.size=0:=by omega
     exact ByteArray.size_eq_zero_iff.1 this
    have c:0<t.name.data.size:=j;obtain⟨b,l⟩:∃b,t.name.data[0]?=some b:=⟨t.name.data[0],by simp[c]⟩;have p:pev .indexS [.sc (.string t.name),.i 0]=some (.sc (.int .u8 (b.toNat:Int))):=by
     simp[pev,l]
    have r:=zmq (s:=t.name) (n:=1) (by omega) (by omega);by_cases m:b=61
    ·subst m;simp[f86,zdv,a,e,g,p,l,jh];simp[r]
    ·have u:¬((b.toNat:Int)=61):=by
      intro h;apply m;have:b.toNat=61:=by omega
      exact UInt8.toNat_inj.1 this
     simp[f86,zdv,a,e,g,p,l,m,u,jh]
  ·have o:0<t.kids.length:=by omega
   have q:(0:Int)<t.kids.length:=by omega
   simp[f86,zdv,a,e,o,jh]
 ·simp[f86,zdv,a,jh]
end
def vf(c:UInt8):Prop:=48<=c.toNat/\c.toNat<=57
instance(c:UInt8):Decidable (vf c):=by unfold vf;infer_instance
def vd:Nat->List UInt8->Nat
 |a,[]=>a
 |a,c::l=>vd (a*10+(c.toNat-48)) l
theorem zrm:∀{l m:List UInt8} {a:Nat},vd a (l++m)=vd (vd a l) m
 |[],_,_=>rfl
 |_::l,m,a=>zrm (l:=l)
theorem zlH:∀{l:List UInt8} {a:Nat},a<=vd a l
 |[],_=>xad _
 |c::l,a=>xaD (by omega) (zlH (l:=l))
theorem zoB{d:Nat}(h:d<10):vf (UInt8.ofNat (48+d))/\(UInt8.ofNat (48+d)).toNat-48=d:=by
 have:(UInt8.ofNat (48+d)).toNat=48+d:=by
  rw[UInt8.toNat_ofNat'];omega
 unfold vf;omega
theorem zb0:∀(n:Nat),(∀c∈Lib.decDigits n,vf c)/\vd 0 (Lib.decDigits n)=n/\Lib.decDigits n≠[]:=by
 intro n
 induction n using Nat.strongRecOn with
 |_ n ih=>
  rw[Lib.decDigits];split
  ·rename_i h;obtain⟨e,g⟩:=zoB h;refine⟨by intro c a;rw[xaA.1 a];exact e,?_,List.cons_ne_nil _ _⟩;show 0*10+((UInt8.ofNat (48+n)).toNat-48)=n;rw[g];omega
  ·rename_i h;obtain⟨i1,i2,i3⟩:=ih (n/10) (by omega);obtain⟨e,g⟩:=zoB (d:=n%10) (by omega);refine⟨?_,?_,by simp⟩
   ·intro c a;rcases xaE.1 a with a|a
    ·exact i1 c a
    ·rw[xaA.1 a];exact e
   ·rw[zrm,i2];show n/10*10+((UInt8.ofNat (48+n%10)).toNat-48)=n;rw[g];omega
theorem zmo:∀{l:List UInt8} {a:Nat},(∀c∈l,vf c)->vd a l<18446744073709551616->Lib.parseUint10 a l=.ok (vd a l)
 |[],_,_,_=>rfl
 |c::l,a,hd,hb=>by
  have g:=hd c (by simp);have h:=@zlH l (a*10+(c.toNat-48));have e:vd (a*10+(c.toNat-48)) l<18446744073709551616:=hb;unfold vf at g;rw[Lib.parseUint10,if_pos g,if_neg (by omega),if_neg (by omega)];exact zmo (fun x i=>hd x (by simp[i])) e
theorem zcS{n:Int}(i: -9223372036854775808<=n)(j:n<=9223372036854775807):Lib.atoiAll (Lib.itoa n)=.ok n:=by
 unfold Lib.itoa;split
 ·rename_i h;obtain⟨i1,i2,i3⟩:=zb0 n.natAbs;have hp:=zmo i1 (a:=0) (by rw[i2];omega);rw[i2]at hp;have e:Lib.parseMag (Lib.decDigits n.natAbs)=.ok n.natAbs:=by unfold Lib.parseMag;rw[if_neg i3,hp]
  unfold Lib.atoiAll;dsimp only;rw[if_pos (.inr rfl),e];dsimp only;rw[if_neg (fun h=>h.1 rfl),if_neg (fun h=>by omega),if_pos (show(45:UInt8).toNat=45 from rfl)];congr 1;omega
 ·rename_i h;obtain⟨i1,i2,i3⟩:=zb0 n.toNat;have hp:=zmo i1 (a:=0) (by rw[i2];omega);rw[i2]at hp;have e:Lib.parseMag (Lib.decDigits n.toNat)=.ok n.toNat:=by unfold Lib.parseMag;rw[if_neg i3,hp]
  generalize m:Lib.decDigits n.toNat=l at *;cases l with
  |nil=>exact absurd rfl i3
  |cons c r=>
   have g:=i1 c (by simp);unfold vf at g;unfold Lib.atoiAll;dsimp only;rw[if_neg (fun h=>by omega),e];dsimp only;rw[if_neg (fun h=>by omega),if_neg (fun h=>by omega),if_neg (fun h=>by omega)];congr 1;omega
theorem zaO{n:Int}:(zE n).data.toList=Lib.itoa n:=by simp[zE]
theorem zrY{n m:Int}(a: -9223372036854775808<=n/\n<=9223372036854775807)(c: -9223372036854775808<=m/\m<=9223372036854775807)(h:zE n=zE m):n=m:=by
 have e:=zcS a.1 a.2;have g:=zcS c.1 c.2;rw[<-zaO,h,zaO,g]at e;cases e;rfl
def inI(n:Int):Prop:= -9223372036854775808<=n/\n<=9223372036854775807
open Classical in
noncomputable def we(s:ByteArray):Option Int:=if h:∃n,inI n/\zE n=s then some h.choose else none
theorem zfF{s:ByteArray}{n:Int}:we s=some n↔inI n/\zE n=s:=by
 unfold we;constructor
 ·intro h;split at h
  ·rename_i a;cases h;exact a.choose_spec
  ·cases h
 ·intro h;have a:∃n,inI n/\zE n=s:=⟨n,h⟩;rw[dif_pos a];have:=a.choose_spec;rw[zrY this.1 h.1 (this.2.trans h.2.symm)]
theorem zfE{s:ByteArray}:we s=none↔∀n,inI n->zE n≠s:=by
 rw[Option.eq_none_iff_forall_not_mem];constructor
 ·intro h n a c;exact h n (zfF.2 ⟨a,c⟩)
 ·intro h n a;have:=zfF.1 a;exact h n this.1 this.2
theorem zCH{n:Int}(h:inI n):we (zE n)=some n:=zfF.2 ⟨h,rfl⟩
noncomputable def ke(t:T):Option Int:=(j6 t).bind fun s=>if s.size<=18 then we s else none
def yM(o:Option Int):AV:=.tup [.sc (.int .i64 (o.getD 0)),.sc (.bool o.isSome)]
section
variable{S:AS}
theorem zbY{n:Int}(h:inI n):call 193 [.sc (.int .i64 n)] S=some (.sc (.string (zE n)),S):=by
 rw[zbh zv2 rfl];unfold inI at h;simp only[zaa,if_pos h]
theorem s66{n:Int}(h:inI n):call 66 [.sc (.int .i64 n)] S=some (.agg (qG n).cells,S):=by
 have a:=vN h.1 h.2;rw[zi a66 rfl (by simp) rfl];simp[f66,zq0,zbY h,s64 (s:=zE n) (by omega),qG]
theorem zkq{s:ByteArray}(h:s.size<=281474976710656):call 196 [.sc (.string s)] S=some (match Lib.atoiAll s.data.toList with
 | .ok v=>.tup [.sc (.int .i64 v),.sc .nilIface]
 | .range=>.tup [.sc (.int .i64 (Lib.atoiSat s.data.toList)),.opq]
 |_=>.tup [.sc (.int .i64 0),.opq],S):=by
 rw[zbh zv5 rfl];simp only[zbe,if_pos h];cases Lib.atoiAll s.data.toList<;>rfl
theorem zn6{l:List UInt8}{v:Int}(h:Lib.atoiAll l=.ok v):inI v:=by
 unfold Lib.atoiAll at h;unfold inI;split at h
 ·cases h
 ·simp only at h;split at h
  ·cases h
  ·cases h
  ·split at h
   ·cases h
   ·split at h
    ·cases h
    ·rename_i a c;cases h;split<;>omega
theorem s87{t:T}(g:t.name.size<=281474976710656):call 87 [.agg t.cells] S=some (yM (ke t),S):=by
 rw[zi a87 rfl (by simp) rfl];unfold ke;cases c:j6 t with
 |none=>
  have e:∀S,call 196 [.sc (.string ⟨#[]⟩)] S=some (.tup [.sc (.int .i64 0),.opq],S):=fun S=>by
   rw[zkq (by show 0<=_;omega)];rfl
  simp[f87,zcp,s85,c,jh,e,yM]
 |some s=>
  have p:s.size<=281474976710656:=by
   unfold j6 at c;split at c
   ·have:=zkz c;omega
   ·cases c
  have e:=fun S=>@zkq S s p;simp only[xae];cases i:Lib.atoiAll s.data.toList with
  |ok v=>
   rw[i]at e;have o:=zn6 i;by_cases l:s.size<=18
   ·rw[if_pos l];have a:¬(18:Int)<s.size:=by omega
    by_cases m:zE v=s
    ·rw[zfF.2 ⟨o,m⟩];simp[f87,zcp,s85,c,jh,e,a,zbY o,m,yM]
    ·have:we s=none:=by
      rw[zfE];intro n g j;have h:=zcS g.1 g.2;rw[<-zaO,j,i]at h;cases h;exact m j
     rw[this];simp[f87,zcp,s85,c,jh,e,a,zbY o,m,yM]
   ·rw[if_neg l];have a:(18:Int)<s.size:=by omega
    simp[f87,zcp,s85,c,jh,e,a,yM]
  |range=>
   rw[i]at e;have:(if s.size<=18 then we s else none)=none:=by
    split
    ·rw[zfE];intro n g j;have h:=zcS g.1 g.2;rw[<-zaO,j,i]at h;cases h
    ·rfl
   rw[this];simp[f87,zcp,s85,c,jh,e,yM]
  |_=>
   rw[i]at e;have:(if s.size<=18 then we s else none)=none:=by
    split
    ·rw[zfE];intro n g j;have h:=zcS g.1 g.2;rw[<-zaO,j,i]at h;cases h
    ·rfl
   rw[this];simp[f87,zcp,s85,c,jh,e,yM]
end
def jo(t:T):ByteArray:=match t.kids with
 |k::_=>if t.kind=3/\t.name=⟨#[]⟩/\v8 k=true then k.name else⟨#[]⟩
 |[]=>⟨#[]⟩
theorem zfZ{t:T}(h:¬(t.kind=3/\t.name=(⟨#[]⟩:ByteArray))):jo t=⟨#[]⟩:=by
 unfold jo;split
 ·rw[if_neg fun a=>h ⟨a.1,a.2.1⟩]
 ·rfl
theorem zuT{t:T}(h:t.kids=[]):jo t=⟨#[]⟩:=by unfold jo;rw[h]
theorem znn{t k:T}{l:List T}(a:t.kind=3)(c:t.name=(⟨#[]⟩:ByteArray))(h:t.kids=k::l):jo t=if v8 k then k.name else⟨#[]⟩:=by
 unfold jo;rw[h];simp[a,c]
def zX(tag:ByteArray)(n:Int)(t:T):Option (List T):=if tag≠⟨#[]⟩/\jo t=tag/\(t.kids.length:Int)=n+1 then some t.kids.tail else none
def zF(o:Option (List T)):AV:=.tup [zh (o.getD []),.sc (.bool o.isSome)]
theorem zl3{k:T}{l:List T}:zh (k::l)=.lst 3 false (k.cells::l.map T.cells):=rfl
@[simp] theorem zMP{l:List T}:lstN 3 (l.map T.cells)=zh l:=rfl
theorem zfA{k:T}{l:List T}:pev (.iaddr 3) [zh (k::l),.i 0]=some (.iptr k.cells):=zJ (i:=0) rfl
section
variable{S:AS}
theorem s81{t:T}:call 81 [.agg t.cells] S=some (.sc (.string (jo t)),S):=by
 rw[zi a81 rfl (by simp) rfl];by_cases a:t.kind=3
 ·by_cases c:t.name=⟨#[]⟩
  ·cases e:t.kids with
   |nil=>rw[zuT e];simp[f81,zdu,a,c,e]
   |cons k l=>
    rw[znn a c e];have g:(0:Int)<l.length+1:=by omega
    cases h:v8 k with
    |true=>simp[f81,zdu,a,c,e,g,zfA,zec,h]
    |false=>simp[f81,zdu,a,c,e,g,zfA,zec,h]
  ·rw[zfZ (by simp[c])];simp[f81,zdu,a,c]
 ·rw[zfZ (by simp[a])];simp[f81,zdu,a]
theorem s82{t:T}:call 82 [.agg t.cells] S=some (.sc (.string (jo t)),S):=by
 rw[zi a82 rfl (by simp) rfl];by_cases c:t.kind=3
 ·by_cases e:t.name=⟨#[]⟩
  ·cases h:t.kids with
   |nil=>rw[zuT h];simp[f82,zco,c,e,h]
   |cons k l=>
    rw[znn c e h];have j:¬(l.length:Int)+1=0:=by omega
    have c0:=zq k;by_cases a:k.kind=1
    ·by_cases g:k.kids.length=0
     ·have i:v8 k=true:=by simp only[v8,a,g,decide_true,Bool.and_true]
      have m:k.kids=[]:=List.eq_nil_of_length_eq_zero g;simp[f82,zco,c,e,h,j,zfA,a,m,i,c0]
     ·have i:v8 k=false:=by simp only[v8,a,decide_true,Bool.true_and,decide_eq_false_iff_not];exact g
      have n:0<k.kids.length:=by omega
      simp[f82,zco,c,e,h,j,zfA,a,n,i,c0]
    ·have i:v8 k=false:=by simp only[v8,a,decide_false,Bool.false_and]
     simp[f82,zco,c,e,h,j,zfA,a,i,c0]
  ·rw[zfZ (by simp[e])];simp[f82,zco,c,e]
 ·rw[zfZ (by simp[c])];simp[f82,zco,c]
theorem zuS{t:T}{tag:ByteArray}(h:jo t=tag)(a:tag≠⟨#[]⟩):∃k l,t.kids=k::l:=by
 unfold jo at h;split at h
 ·rename_i k l c;exact⟨k,l,c⟩
 ·exact absurd h.symm a
theorem s78{tag:ByteArray}{n:Int}{t:T}(r:t.kids.length<=4611686018427387904):call 78 [.sc (.string tag),.sc (.int .i64 n),.agg t.cells] S=some (zF (zX tag n t),S):=by
 rw[zi a78 rfl (by simp) rfl];have h:IntKind.i64.wrap ((t.kids.length:Int)-1)=t.kids.length-1:=w64 (by omega);unfold zX;by_cases a:tag=⟨#[]⟩
 ·subst a;rw[if_neg (by simp)];simp[f78,zfg,zF];rfl
 ·by_cases c:jo t=tag
  ·by_cases m:(t.kids.length:Int)=n+1
   ·rw[if_pos ⟨a,c,m⟩];obtain⟨k,l,o⟩:=zuS c a;have s:t.kids.length-1=n:=by omega
    have e:pev (.sliceL 3 true true true) [zh t.kids,.i 1,.sc (.int .i64 t.kids.length),.sc (.int .i64 t.kids.length)]=some (.lst 3 true (l.map T.cells)):=by
     rw[o];have p:(1:Int)<=(l.length:Int)+1:=by omega
     have q:(0:Int)<=(l.length:Int)+1:=by omega
     simp[pev,zl3,zM,p,q];exact List.take_of_length_le (by simp)
    have g:(t.kids.length:Int)-1=n:=by omega
    rw[g]at h;have j:t.kids.tail=l:=by rw[o];rfl
    rw[j];simp[f78,zfg,s81,a,c,h,g,e,zF]
   ·rw[if_neg (by simp[m])];have g:¬(t.kids.length:Int)-1=n:=by omega
    simp[f78,zfg,s81,a,c,h,g,zF];rfl
  ·rw[if_neg (by simp[c])];simp[f78,zfg,s81,a,c,zF];rfl
theorem s79{tag:ByteArray}{n:Int}{t:T}(p: -4611686018427387904<=n/\n<=4611686018427387904):call 79 [.sc (.string tag),.sc (.int .i64 n),.agg t.cells] S=some (zF (zX tag n t),S):=by
 rw[zi a79 rfl (by simp) rfl];have h:IntKind.i64.wrap (n+1)=n+1:=w64 (by omega);unfold zX;by_cases a:tag=⟨#[]⟩
 ·subst a;rw[if_neg (by simp)];simp[f79,zfh,s82,zF];rfl
 ·by_cases c:jo t=tag
  ·by_cases g:(t.kids.length:Int)=n+1
   ·rw[if_pos ⟨a,c,g⟩];obtain⟨k,l,m⟩:=zuS c a;have e:pev (.sliceL 3 true false false) [zh t.kids,.i 1]=some (.lst 3 false (l.map T.cells)):=by
     rw[m];have o:(1:Int)<=(l.length:Int)+1:=by omega
     simp[pev,zl3,zM,o]
    have j:t.kids.tail=l:=by rw[m];rfl
    rw[j];rw[<-g]at h;simp[f79,zfh,s82,a,c,<-g,h,e,zF]
   ·rw[if_neg (by simp[g])];simp[f79,zfh,s82,a,c,h,g,zF];rfl
  ·rw[if_neg (by simp[c])];simp[f79,zfh,s82,a,c,zF];rfl
def wd:ByteArray:=⟨#[110,111,110,101]⟩
def yR(t:T):Bool:=(zX wd 0 t).isSome
theorem s83{t:T}(a:t.kids.length<=4611686018427387904):call 83 [.agg t.cells] S=some (.sc (.bool (yR t)),S):=by
 rw[zi a83 rfl (by simp) rfl];have e:=fun S=>@s78 S wd 0 t a;simp only[wd]at e;unfold yR wd;simp[f83,zra,e,zF]
theorem s84{t:T}:call 84 [.agg t.cells] S=some (.sc (.bool (yR t)),S):=by
 rw[zi a84 rfl (by simp) rfl];have e:=fun S=>@s79 S wd 0 t (by omega);simp only[wd]at e;unfold yR wd;simp[f84,zrb,e,zF]
end
def qg:Bool->Nat->List UInt8->Option Nat
 |_,n,[]=>some n
 |f,n,c::l=>if f=true/\c=45 then qg false n l else if vf c then qg false (n*10+(c.toNat-48)) l else none
def wv(s:ByteArray)(o:Option Nat):Option Int:=o.bind fun n=>if zE (if s.data[0]?=some 45 then -(n:Int)else n)=s then some (if s.data[0]?=some 45 then -(n:Int)else n)else none
theorem zm7:∀{l:List UInt8} {f:Bool} {n:Nat},(∀c∈l,vf c)->qg f n l=some (vd n l)
 |[],_,_,_=>rfl
 |c::l,f,n,h=>by
  have e:=h c (by simp);have a:¬(f=true/\c=45):=by
   rintro⟨_,rfl⟩;exact absurd e (by decide)
  rw[qg,if_neg a,if_pos e];exact zm7 fun x g=>h x (by simp[g])
theorem zjK:∀{l:List UInt8} {f:Bool} {n m k:Nat},n<10^k->qg f n l=some m->m<10^(k+l.length)
 |[],_,_,_,_,h,e=>by simp only[qg]at e;cases e;simpa using h
 |c::l,f,n,m,k,h,e=>by
  have hp:10^(k+1)=10^k*10:=Nat.pow_succ 10 k;rw[qg]at e;rw[xaI,show k+(l.length+1)=(k+1)+l.length by omega];split at e
  ·exact zjK (k:=k+1) (by omega) e
  ·split at e
   ·rename_i a;unfold vf at a;exact zjK (k:=k+1) (by omega) e
   ·cases e
theorem zoQ{s:ByteArray}(j:s.size<=18):wv s (qg true 0 s.data.toList)=we s:=by
 have l:s.data.toList.length=s.size:=by simp
 cases c:we s with
 |some m=>
  obtain⟨o,e⟩:=zfF.1 c;have p:s.data.toList=Lib.itoa m:=by rw[<-e,zaO]
  have q:s.data[0]?=s.data.toList[0]?:=by simp
  unfold wv;rw[q,p];unfold Lib.itoa;unfold inI at o;split
  ·rename_i a;obtain⟨i1,i2,i3⟩:=zb0 m.natAbs;have r:qg true 0 (45::Lib.decDigits m.natAbs)=some m.natAbs:=by
    rw[qg,if_pos ⟨rfl,rfl⟩,zm7 i1,i2]
   have g: -(m.natAbs:Int)=m:=by omega
   simp[r,g,e]
  ·rename_i a;obtain⟨i1,i2,i3⟩:=zb0 m.toNat;rw[zm7 i1,i2];have t:¬(Lib.decDigits m.toNat)[0]?=some 45:=by
    intro h;have:=i1 45 (xaj h);exact absurd this (by decide)
   have g:(m.toNat:Int)=m:=by omega
   simp only[xae,if_neg t,g,e,if_true]
 |none=>
  rw[zfE]at c;unfold wv;cases u:qg true 0 s.data.toList with
  |none=>rfl
  |some n=>
   have w:=zjK (k:=0) (by omega) u;have i:10^(0+s.data.toList.length)<=10^18:=Nat.pow_le_pow_right (by omega) (by omega);simp only[xae];rw[if_neg];apply c;unfold inI;split<;>omega
section
variable{S:AS}
theorem zfq{s:ByteArray}{i:Nat}{b:UInt8}(h:s.data.toList[i]?=some b):pev .indexS [.sc (.string s),.sc (.int .i64 (i:Int))]=some (.sc (.int .u8 (b.toNat:Int))):=by
 have a:s.data[i]?=some b:=by simpa using h
 simp[pev,a]
theorem s88{t:T}:call 88 [.agg t.cells] S=some (yM (ke t),S):=by
 rw[zi a88 rfl (by simp) rfl];unfold ke;cases W:j6 t with
 |none=>simp[f88,zfj,s86,W,jh,yM]
 |some s=>
  simp only[xae];by_cases G:s=⟨#[]⟩
  ·subst G;have:we (⟨#[]⟩:ByteArray)=none:=by
    rw[zfE];intro n hn E;have:=congrArg (fun x=>x.data.toList) E;simp only[zaO]at this;unfold Lib.itoa at this;split at this
    ·simp at this
    ·exact(zb0 _).2.2 this
   simp[f88,zfj,s86,W,jh,yM,this]
  ·by_cases F:s.size<=18
   ·rw[if_pos F,<-zoQ F];have w:¬(18:Int)<s.size:=by omega
    have K:s.data.toList.length=s.size:=by simp
    simp only[f88];simp[-zg,zfj,s86,W,jh,G,w];refine y8 (α:=Nat×Nat) (R:=fun a r=>zW S r=some (yM (wv s (qg (decide (a.1=0)) a.2 (s.data.toList.drop a.1))),S)) (fun a e rg S'=>a.1<=s.size/\a.2<10^a.1/\e 4=.sc (.string s)/\e 6=.sc (.int .i64 (a.2:Nat))/\e 7=.sc (.int .i64 (a.1:Nat))) (fun a=>s.size-a.1) ?_ (0,0) _ _ _ ?_;rotate_left
    ·simp
    intro kk y ⟨i,n⟩ e rg S' ⟨hi,Z,l,p,z⟩ ih;simp only at hi Z p z ih ⊢;by_cases L:i<s.size
    ·have m:(i:Int)<s.size:=by omega
     obtain⟨b,M⟩:∃b,s.data.toList[i]?=some b:=⟨s.data.toList[i],by simp[K,L]⟩;have g:s.data.toList.drop i=b::s.data.toList.drop (i+1):=by
      obtain⟨N,rfl⟩:=xal.1 M;exact List.drop_eq_getElem_cons N
     have u:=zfq M;have w2:IntKind.i64.wrap ((i:Int)+1)=((i+1:Nat):Int):=w64 (by omega);have hp:10^(i+1)=10^i*10:=Nat.pow_succ 10 i;have O:10^(i+1)<=10^18:=Nat.pow_le_pow_right (by omega) (by omega);by_cases X:i=0/\b=45
     ·obtain⟨rfl,rfl⟩:=X;have A:qg (decide (0=0)) n (45::s.data.toList.drop (0+1))=qg (decide (0+1=0)) n (s.data.toList.drop (0+1)):=by
       rw[qg,if_pos ⟨by simp,rfl⟩];rfl
      have c:pev .indexS [.sc (.string s),.sc (.int .i64 0)]=some (.sc (.int .u8 45)):=u;simp[-zg,zaJ,l,p,z,m,L,c];have w3:IntKind.i64.wrap 1=1:=rfl;refine ih (0+1,n) _ _ _ (by simp only;omega) (fun r h=>by rw[g,A];exact h) ?_;refine⟨by simp only;omega,by simp only;omega,by simp[l],by simp[p],by simp[w3]⟩
     ·by_cases Y:vf b
      ·have A:qg (decide (i=0)) n (b::s.data.toList.drop (i+1))=qg (decide (i+1=0)) (n*10+(b.toNat-48)) (s.data.toList.drop (i+1)):=by
        rw[qg,if_neg (by simpa using X),if_pos Y];rfl
       unfold vf at Y;have H:¬((b.toNat:Int)<48):=by omega
       have I:¬((57:Int)<b.toNat):=by omega
       have J:¬((b.toNat:Int)=45):=by omega
       have P:IntKind.i64.wrap ((n:Int)*10)=(n:Int)*10:=w64 (by omega);have w5:IntKind.i64.wrap (b.toNat:Int)=b.toNat:=w64 (by omega);have w6:IntKind.i64.wrap ((n:Int)*10+b.toNat)=(n:Int)*10+b.toNat:=w64 (by omega);have w7:IntKind.i64.wrap ((n:Int)*10+b.toNat-48)=((n*10+(b.toNat-48):Nat):Int):=by rw[w64 (by omega)];omega
       by_cases o:i=0
       ·subst o;have c:pev .indexS [.sc (.string s),.sc (.int .i64 0)]=some (.sc (.int .u8 b.toNat)):=u;have w3:IntKind.i64.wrap 1=1:=rfl;simp[-zg,zaJ,l,p,z,m,L,c,H,I,J,P,w5,w6,w7];refine ih (0+1,n*10+(b.toNat-48)) _ _ _ (by simp only;omega) (fun r h=>by rw[g,A];exact h) ?_;refine⟨by simp only;omega,by simp only;omega,by simp[l],by simp,by simp[w3]⟩
       ·have ad:¬(i:Int)=0:=by omega
        have aa:decide (i=0)=false:=by simp[o]
        rw[aa]at ih A;simp[-zg,zaJ,l,p,z,m,o,u,H,I,P,w5,w6,w7,w2];refine ih (i+1,n*10+(b.toNat-48)) _ _ _ (by simp only;omega) (fun r h=>by rw[g,A];exact h) ?_;refine⟨by simp only;omega,by simp only;omega,by simp[l],by simp,by simp⟩
      ·have A:qg (decide (i=0)) n (b::s.data.toList.drop (i+1))=none:=by
        rw[qg,if_neg (by simpa using X),if_neg Y]
       rw[g,A];unfold vf at Y;have q:(b.toNat:Int)<48\/¬((b.toNat:Int)<48)/\(57:Int)<b.toNat:=by omega
       have J:i=0->¬((b.toNat:Int)=45):=by
        intro G h1;apply X;refine⟨G,UInt8.toNat_inj.1 ?_⟩;show b.toNat=45;omega
       by_cases o:i=0
       ·subst o;have J:=J rfl;have c:pev .indexS [.sc (.string s),.sc (.int .i64 0)]=some (.sc (.int .u8 b.toNat)):=u;rcases q with q|⟨H,I⟩
        ·simp[-zg,zaJ,l,p,z,m,L,c,q,J];rw[y];simp[wv,yM]
        ·simp[-zg,zaJ,l,p,z,m,L,c,H,I,J];rw[y];simp[wv,yM]
       ·rcases q with q|⟨H,I⟩
        ·simp[-zg,zaJ,l,p,z,m,o,u,q];rw[y];simp[wv,yM]
        ·simp[-zg,zaJ,l,p,z,m,o,u,H,I];rw[y];simp[wv,yM]
    ·have ab:i=s.size:=by omega
     subst ab;have Q:s.data.toList.drop s.size=[]:=xaB (by omega);rw[Q];have A:qg (decide (s.size=0)) n []=some n:=rfl;rw[A];have U:0<s.size:=by
      apply Classical.byContradiction;intro hn;exact G (ByteArray.size_eq_zero_iff.1 (by omega))
     obtain⟨b,M⟩:∃b,s.data.toList[0]?=some b:=⟨s.data.toList[0],by simp[K,U]⟩;have c:pev .indexS [.sc (.string s),.i 0]=some (.sc (.int .u8 b.toNat)):=zfq M;have ac:s.data[0]?=some b:=by simpa using M
     have O:10^s.size<=10^18:=Nat.pow_le_pow_right (by omega) (by omega);unfold wv;rw[ac];simp[-zg,zaJ,l,p,z];rw[y];by_cases B:b=45
     ·subst B;have P:IntKind.i64.wrap (-(n:Int))= -(n:Int):=w64 (by omega);have V:IntKind.i64.wrap (0-(n:Int))= -(n:Int):=by rw[w64 (by omega)];omega
      have j:=fun S=>@zbH S (-(n:Int)) (by omega) (by omega);have C:pev .indexS [.sc (.string s),.i 0]=some (.sc (.int .u8 45)):=c;by_cases E:zE (-(n:Int))=s
      ·simp[l,p,C,P,V,j,E,yM]
      ·simp[l,p,C,P,V,j,E,yM]
     ·have D:¬((b.toNat:Int)=45):=by
       intro h;apply B;apply UInt8.toNat_inj.1;show b.toNat=45;omega
      have j:=fun S=>@zbH S (n:Int) (by omega) (by omega);by_cases E:zE (n:Int)=s
      ·simp[l,p,c,B,D,j,E,yM]
      ·simp[l,p,c,B,D,j,E,yM]
   ·rw[if_neg F];have w:(18:Int)<s.size:=by omega
    simp[f88,zfj,s86,W,jh,yM,G,w]
end
theorem zJz{a:List ByteArray}{s:ByteArray}:zv (a++[s])=zv a++[[.sc (.string s)]]:=by simp[zv]
section
variable{S:AS}
end
def qX:ByteArray:=⟨#[97,115,45,114,101,113]⟩
def wW:ByteArray:=⟨#[101,114,114,111,114]⟩
def vF:ByteArray:=⟨#[98,111,100,121]⟩
def zai(a b c:T):T:=zG qX [a,b,c]
def jx(n:Int):T:=zG wW [qG n]
def zw:T:=zG wd []
def wO(s r:ByteArray):T:=zG vF [yU s,yU r]
theorem jO{tag:ByteArray}{n:Nat}{t:T}{l:List T}(h:zX tag n t=some l):l.length=n/\∀k∈l,k∈t.kids:=by
 unfold zX at h;split at h
 ·rename_i c;cases h;refine⟨by rw[List.length_tail];omega,fun k a=>List.mem_of_mem_tail a⟩
 ·cases h
section
variable{S:AS}
theorem zrT{a b c:T}{f:Bool}:qs S (.lst 3 f [a.cells,b.cells,c.cells]) [a,b,c]:=k9 (l:=[a,b,c])
theorem zi5{a b:T}{f:Bool}:qs S (.lst 3 f [a.cells,b.cells]) [a,b]:=k9 (l:=[a,b])
theorem zfs{a:T}{f:Bool}:qs S (.lst 3 f [a.cells]) [a]:=k9 (l:=[a])
theorem zGn{s:ByteArray}{z:Nat}{f:Bool}:call 62 [.sc (.string s),.lst z f []] S=some (.agg (zG s []).cells,S):=p62 zft (by simp)
theorem zGo{s:ByteArray}{f:Bool}{a:T}:call 62 [.sc (.string s),.lst 3 f [a.cells]] S=some (.agg (zG s [a]).cells,S):=p62 zfs (by simp)
theorem zGp{s:ByteArray}{f:Bool}{a b:T}:call 62 [.sc (.string s),.lst 3 f [a.cells,b.cells]] S=some (.agg (zG s [a,b]).cells,S):=p62 zi5 (by simp)
theorem zGq{s:ByteArray}{f:Bool}{a b c:T}:call 62 [.sc (.string s),.lst 3 f [a.cells,b.cells,c.cells]] S=some (.agg (zG s [a,b,c]).cells,S):=p62 zrT (by simp)
theorem zGr{s:ByteArray}{z:Nat}{f:Bool}:call 63 [.sc (.string s),.lst z f []] S=some (.agg (zG s []).cells,S):=p63 zft (by simp)
theorem zGs{s:ByteArray}{f:Bool}{a:T}:call 63 [.sc (.string s),.lst 3 f [a.cells]] S=some (.agg (zG s [a]).cells,S):=p63 zfs (by simp)
theorem zGt{s:ByteArray}{f:Bool}{a b:T}:call 63 [.sc (.string s),.lst 3 f [a.cells,b.cells]] S=some (.agg (zG s [a,b]).cells,S):=p63 zi5 (by simp)
theorem zGu{s:ByteArray}{f:Bool}{a b c:T}:call 63 [.sc (.string s),.lst 3 f [a.cells,b.cells,c.cells]] S=some (.agg (zG s [a,b,c]).cells,S):=p63 zrT (by simp)
attribute [simp] zGn zGo zGp zGq zGr zGs zGt zGu
@[simp] theorem s71{a b c:T}:call 71 [.agg a.cells,.agg b.cells,.agg c.cells] S=some (.agg (zai a b c).cells,S):=by
 rw[zi a71 rfl (by simp) rfl];simp[f71,zq4,zai,qX]
theorem s72{n:Int}(h:inI n):call 72 [.sc (.int .i64 n)] S=some (.agg (jx n).cells,S):=by
 rw[zi a72 rfl (by simp) rfl];simp[f72,zq5,s66 h,jx,wW]
theorem s73{n:Int}(h:inI n)(a:n≠ -9223372036854775808):call 73 [.sc (.int .i64 n)] S=some (.agg (jx n).cells,S):=by
 unfold inI at h;rw[zi a73 rfl (by simp) rfl];simp[f73,zq6,@s67 _ n (by omega) h.2,jx,wW]
@[simp] theorem s74:call 74 [] S=some (.agg zw.cells,S):=by
 rw[zi a74 rfl rfl rfl];simp[f74,zq7,zw,wd]
@[simp] theorem s75:call 75 [] S=some (.agg zw.cells,S):=by
 rw[zi a75 rfl rfl rfl];simp[f75,zq8,zw,wd]
theorem s77{s r:ByteArray}(a:s.size<=4611686018427387904)(c:r.size<=4611686018427387904):call 77 [.sc (.string s),.sc (.string r)] S=some (.agg (wO s r).cells,S):=by
 rw[zi a77 rfl (by simp) rfl];simp[f77,zq9,s65 s a,s65 r c,wO,vF]
def zbW:List T->Option (ByteArray×ByteArray)
 |[a,b]=>(j6 a).bind fun x=>(j6 b).bind fun y=>if x=⟨#[]⟩\/y=⟨#[]⟩then none else some (x,y)
 |_=>none
theorem zzc{a b:T}:zbW [a,b]=(j6 a).bind fun x=>(j6 b).bind fun y=>if x=⟨#[]⟩\/y=⟨#[]⟩then none else some (x,y):=rfl
def jL(t:T):Option (ByteArray×ByteArray):=(zX vF 2 t).bind zbW
def yI(o:Option (ByteArray×ByteArray)):AV:=.tup [.sc (.string ((o.map Prod.fst).getD ⟨#[]⟩)),.sc (.string ((o.map Prod.snd).getD ⟨#[]⟩)),.sc (.bool o.isSome)]
theorem zB7{a b:T}:pev (.iaddr 3) [zh [a,b],.i 0]=some (.iptr a.cells):=zJ (i:=0) rfl
theorem zB8{a b:T}:pev (.iaddr 3) [zh [a,b],.i 1]=some (.iptr b.cells):=zJ (i:=1) rfl
theorem zB6{a:T}:pev (.iaddr 3) [zh [a],.i 0]=some (.iptr a.cells):=zJ (i:=0) rfl
theorem zB9{a b c:T}:pev (.iaddr 3) [zh [a,b,c],.i 0]=some (.iptr a.cells):=zJ (i:=0) rfl
theorem zCa{a b c:T}:pev (.iaddr 3) [zh [a,b,c],.i 1]=some (.iptr b.cells):=zJ (i:=1) rfl
theorem zCb{a b c:T}:pev (.iaddr 3) [zh [a,b,c],.i 2]=some (.iptr c.cells):=zJ (i:=2) rfl
attribute [simp] zB7 zB8 zB6 zB9 zCa zCb
theorem s92{t:T}(m:t.kids.length<=4611686018427387904):call 92 [.agg t.cells] S=some (yI (jL t),S):=by
 rw[zi a92 rfl (by simp) rfl];have e:=fun S=>@s78 S vF 2 t m;simp only[vF]at e;unfold jL;cases c:zX vF 2 t with
 |none=>
  simp only[vF]at c;simp[f92,zcq,e,c,zF,yI]
 |some l=>
  obtain⟨o,_⟩:=jO (n:=2) c
  match l,o with
  |[a,b],_=>
   simp only[vF]at c;simp only[xae,zbW];cases g:j6 a with
   |none=>simp[f92,zcq,e,c,zF,yI,s85,g,jh]
   |some x=>
    cases h:j6 b with
    |none=>simp[f92,zcq,e,c,zF,yI,s85,g,h,jh]
    |some y=>
     by_cases i:x=⟨#[]⟩
     ·simp[f92,zcq,e,c,zF,yI,s85,g,h,jh,i]
     ·by_cases j:y=⟨#[]⟩
      ·simp[f92,zcq,e,c,zF,yI,s85,g,h,jh,i,j]
      ·simp[f92,zcq,e,c,zF,yI,s85,g,h,jh,i,j]
theorem s93{t:T}:call 93 [.agg t.cells] S=some (yI (jL t),S):=by
 rw[zi a93 rfl (by simp) rfl];have e:=fun S=>@s79 S vF 2 t (by omega);simp only[vF]at e;unfold jL;cases c:zX vF 2 t with
 |none=>
  simp only[vF]at c;simp[f93,zcr,e,c,zF,yI]
 |some l=>
  obtain⟨m,_⟩:=jO (n:=2) c
  match l,m with
  |[a,b],_=>
   simp only[vF]at c;simp only[xae,zbW];cases g:j6 a with
   |none=>simp[f93,zcr,e,c,zF,yI,s86,g,jh]
   |some x=>
    cases h:j6 b with
    |none=>simp[f93,zcr,e,c,zF,yI,s86,g,h,jh]
    |some y=>
     by_cases i:x=⟨#[]⟩
     ·simp[f93,zcr,e,c,zF,yI,s86,g,h,jh,i]
     ·by_cases j:y=⟨#[]⟩
      ·simp[f93,zcr,e,c,zF,yI,s86,g,h,jh,i,j]
      ·simp[f93,zcr,e,c,zF,yI,s86,g,h,jh,i,j]
def tZ:T:=.mk 0 ⟨#[]⟩ []
def zkc:List T->Option (T×T×T)
 |[a,b,c]=>some (a,b,c)
 |_=>none
def qY(t:T):Option (T×T×T):=(zX qX 3 t).bind zkc
def y9(o:Option (T×T×T)):AV:=.tup [.agg ((o.map Prod.fst).getD tZ).cells,.agg ((o.map fun x=>x.2.1).getD tZ).cells,.agg ((o.map fun x=>x.2.2).getD tZ).cells,.sc (.bool o.isSome)]
theorem s94{t:T}(h:t.kids.length<=4611686018427387904):call 94 [.agg t.cells] S=some (y9 (qY t),S):=by
 rw[zi a94 rfl (by simp) rfl];have e:=fun S=>@s78 S qX 3 t h;simp only[qX]at e;unfold qY;cases g:zX qX 3 t with
 |none=>
  simp only[qX]at g;simp[f94,zlA,e,g,zF,y9,tZ,T.cells,ym];rfl
 |some l=>
  obtain⟨i,_⟩:=jO (n:=3) g
  match l,i with
  |[a,b,c],_=>
   simp only[qX]at g;simp only[xae,zkc];simp[f94,zlA,e,g,zF,y9]
theorem s95{t:T}:call 95 [.agg t.cells] S=some (y9 (qY t),S):=by
 rw[zi a95 rfl (by simp) rfl];have e:=fun S=>@s79 S qX 3 t (by omega);simp only[qX]at e;unfold qY;cases g:zX qX 3 t with
 |none=>
  simp only[qX]at g;simp[f95,zlB,e,g,zF,y9,tZ,T.cells,ym];rfl
 |some l=>
  obtain⟨h,_⟩:=jO (n:=3) g
  match l,h with
  |[a,b,c],_=>
   simp only[qX]at g;simp only[xae,zkc];simp[f95,zlB,e,g,zF,y9]
noncomputable def zmv:List T->Option Int
 |[a]=>(ke a).bind fun n=>if n<1 then none else some n
 |_=>none
theorem zHv{a:T}:zmv [a]=(ke a).bind fun n=>if n<1 then none else some n:=rfl
noncomputable def zaZ(t:T):Option Int:=(zX wW 1 t).bind zmv
theorem s97{t:T}:call 97 [.agg t.cells] S=some (yM (zaZ t),S):=by
 rw[zi a97 rfl (by simp) rfl];have e:=fun S=>@s79 S wW 1 t (by omega);simp only[wW]at e;unfold zaZ;cases c:zX wW 1 t with
 |none=>
  simp only[wW]at c;simp[f97,zfk,e,c,zF,yM]
 |some l=>
  obtain⟨j,m⟩:=jO (n:=1) c
  match l,j with
  |[a],_=>
   simp only[wW]at c;simp only[xae,zmv];have g:=fun S=>@s88 S a;cases h:ke a with
   |none=>simp[f97,zfk,e,c,zF,yM,g,h]
   |some n=>
    by_cases i:n<1
    ·simp[f97,zfk,e,c,zF,yM,g,h,i]
    ·simp[f97,zfk,e,c,zF,yM,g,h,i]
end
instance(n:Int):Decidable (inI n):=by unfold inI;infer_instance
theorem znx{s:ByteArray}:j6 (yU s)=some s:=by
 unfold j6 yU;rw[if_pos (by rfl)];exact zkx
theorem zno{s:ByteArray}{l:List T}:jo (zG s l)=s:=by
 rw[znn (t:=zG s l) rfl rfl rfl];rfl
theorem zba{s:ByteArray}{l:List T}{n:Int}(a:s≠⟨#[]⟩)(c:(l.length:Int)=n):zX s n (zG s l)=some l:=by
 unfold zX;rw[if_pos ⟨a,zno,by show((l.length+1:Nat):Int)=n+1;omega⟩];rfl
theorem zu4{s r:ByteArray}{l:List T}{n:Int}(h:r≠s):zX r n (zG s l)=none:=by
 unfold zX;rw[if_neg];rintro⟨_,a,_⟩;rw[zno]at a;exact h a.symm
theorem zsK{n:Int}(h:inI n)(a:(zE n).size<=18):ke (qG n)=some n:=by
 unfold ke qG;rw[znx];show(if(zE n).size<=18 then we (zE n)else none)=_;rw[if_pos a,zCH h]
theorem zrQ:yR zw=true:=by
 unfold yR zw;rw[zba (by decide) (by rfl)];rfl
section
variable{S:AS}
theorem i3:zE (-3)=⟨#[45,51]⟩:=by
 unfold zE Lib.itoa;rw[if_pos (by decide),show(-3:Int).natAbs=3 from rfl,Lib.decDigits_one (by omega)];rfl
theorem i5:zE 5=⟨#[53]⟩:=by
 unfold zE Lib.itoa;rw[if_neg (by decide),show(5:Int).toNat=5 from rfl,Lib.decDigits_one (by omega)];rfl
end
end Abs
