/- Ranging over a map: frames beside an iterator. -/
import Derived.Test.YtdiebjbepfjjfaaGreatDoorE3
import Derived.Maps.RangeRun
import Derived.MakeChecks
import Derived.FnData
import Derived.Sort.Grow
import Derived.Sort.EncStr
import Derived.Lib.Join
import Derived.Lib.LaidTab
import Derived.Lib.AtoiAll
import Derived.Lib.ItoaNum
import Derived.Lib.ConvBytes
import Derived.Lib.AtoiErrMem
import Derived.Lib.QuietBelow
import Derived.Lib.LazyBuf
set_option linter.unusedVariables false
set_option linter.unusedSimpArgs false
set_option linter.unusedSectionVars false
namespace Abs
open Go
section
variable{A:zA}{D:Nat->Prop}{G:Gh}{ρ:Nat->Option Nat}{σ:ASt}{a:Act}{w:World}{P:Program}{K:Nat->Option Nat}
theorem Fr.wide{f:Nat->Prop}(h:Fr A D G ρ σ a w)(d:∀b,D b->f b):Fr A f G ρ σ a w:=
 {h with
  reg:=fun r cs e=>by obtain⟨b,c,e,h1,h2,h3,h4,g⟩:=h.reg r cs e;exact⟨b,c,e,h1,h2,h3,d b h4,g⟩
  dwr:=fun b e=>d b (h.dwr b e)
  dnew:=fun b e=>d b (h.dnew b e)}
theorem Fr.excl(h:Fr A D G ρ σ a w){r:Nat}(d:j7 D G ρ σ r)(f:r<w.heap.size):Fr A (fun b=>D b/\b≠r) G ρ σ a w:=
 {h with
  reg:=fun q cs e=>by
   obtain⟨b,c,e1,h1,h2,h3,h4,g⟩:=h.reg q cs e;exact⟨b,c,e1,h1,h2,h3,⟨h4,by rintro rfl;exact d.reg q cs e h1⟩,g⟩
  dwr:=fun b e=>⟨h.dwr b e,by
   obtain⟨id,o,x,_,h1,h2,h3,rfl⟩:=e;exact d.obj id o x h1 h2 h3⟩
  dnew:=fun b e=>⟨h.dnew b e,by omega⟩}
theorem Fr.iter(h:Fr A D G ρ σ a w)(o:Obj):∃G',Fr A D G' ρ {σ with S:=σ.S.new (.rows 1 [])} a (w.alloc o)/\Ext D G w G' (w.alloc o)/\j7 D G' ρ {σ with S:=σ.S.new (.rows 1 [])} w.heap.size/\G'.ι σ.S.n=some (w.heap.size,1,0):=by
 obtain⟨j,k⟩:=h.made o (sz:=1) (N:=0) (ao:=.rows 1 []) ⟨rfl,by omega,by simp,.inl rfl⟩;refine⟨_,j,k,⟨h.dnew _ (xad _),?_,?_,?_⟩,by simp[Gh.made]⟩
 ·intro off hp;have:G.P w.heap.size off:=hp;have:=h.sim.lt _ _ this;omega
 ·intro id l x e d f g;simp only[AS.new]at e;simp only[Gh.made]at d;split at e
  ·rename_i b;rw[if_pos b]at d;cases d;exact absurd f (by simp)
  ·rename_i b;rw[if_neg b]at d;obtain⟨y,i,p⟩:=h.sim.obj id l e;rw[d]at i;cases i;have:=p.lt f;omega
 ·intro q cs e g;have:=h.reg_lt e g;omega
open Go.ChangeMaps (setBlock) in
theorem Fr.stepIter{r:Nat}(k:Fr A (fun b=>D b/\b≠r) G ρ σ a w)(g:j7 D G ρ σ r){o:Obj}(i:w.heap[r]?=some o)(o':Obj):
 Fr A (fun b=>D b/\b≠r) G ρ σ a (setBlock w r o')/\Ext D G w G (setBlock w r o')/\(setBlock w r o').heap[r]?=some o'/\(∀b,b≠r->(setBlock w r o').heap[b]?=w.heap[b]?):=by
 have f:=j0 i;have d:=zrA (o:=o') i;have e:(setBlock w r o').heap=w.heap.setIfInBounds r o':=rfl;have l:(setBlock w r o').heap[r]?=some o':=by rw[e];exact d.1
 have j:∀b,b≠r->(setBlock w r o').heap[b]?=w.heap[b]?:=fun b n=>by rw[e];exact d.2.1 b n
 obtain⟨p,q⟩:=(k.wide fun b h=>h.1).write (w':=setBlock w r o') g (by rw[e];simp) j ⟨rfl,rfl,rfl⟩;exact⟨p.excl g (by rw[e];simpa using f),q,l,j⟩
def ASt.still(σ:ASt):ASt:={σ with S:={σ.S with ro:=σ.S.n}}
theorem Fr.still(h:Fr A D G ρ σ a w)(hrg:∀r,σ.rg r=none):Fr A (fun b=>w.heap.size<=b) G ρ σ.still a w where
 defers:=h.defers
 size:=h.size
 tmp:=h.tmp
 reg:=fun r cs e=>by rw[show σ.still.rg r=σ.rg r from rfl,hrg r]at e;cases e
 rinj:=h.rinj
 rhp:=h.rhp
 sim:=znd h.sim (P':=G.P) h.sim.lt (fun _ _ h=>h)
 dwr:=fun b e=>absurd e (znz (P':=G.P) h.sim)
 dnew:=fun b e=>e
 glob:=h.glob
theorem Fr.unstill{G':Gh}{ρ':Nat->Option Nat}{σ1:ASt}{a':Act}{w':World}(h:Fr A D G ρ σ a w)(h':Fr A (fun b=>w.heap.size<=b) G' ρ' σ1 a' w')(hx:Ext (fun b=>w.heap.size<=b) G w G' w')(hS:σ1.S=σ.still.S)(hrg:∀r,σ1.rg r=none):
 Fr A D G' ρ' {σ1 with S:=σ.S} a' w' where
 defers:=h'.defers
 size:=h'.size
 tmp:=h'.tmp
 reg:=fun r cs e=>by rw[show({σ1 with S:=σ.S}:ASt).rg r=σ1.rg r from rfl,hrg r]at e;cases e
 rinj:=h'.rinj
 rhp:=fun r cs b id o x e=>by rw[show({σ1 with S:=σ.S}:ASt).rg r=σ1.rg r from rfl,hrg r]at e;cases e
 sim:=
  {obj:=fun id o e=>h'.sim.obj id o (by rw[hS];exact e)
   fresh:=fun id e=>by
    have:=h'.sim.fresh id (by rw[hS];exact e);rw[hS]at this;exact this
   inj:=fun id id' o o' x x' e e'=>h'.sim.inj id id' o o' x x' (by rw[hS];exact e) (by rw[hS];exact e')
   own:=fun id o x off hr e hx' h0 hp=>by
    obtain⟨y,hy,ho⟩:=h.sim.obj id o e;have:=hx.ι _ _ hy;rw[hx']at this;cases this;rcases hx.new _ _ hp with hp|hp
    ·exact h.sim.own id o _ off hr e hy h0 hp
    ·have:=ho.lt h0;omega
   lt:=h'.sim.lt
   ro:=h.sim.ro}
 dwr:=fun b e=>by
  obtain⟨id,o,x,hr,e,hx',h0,rfl⟩:=e;obtain⟨y,hy,ho⟩:=h.sim.obj id o e;have:=hx.ι _ _ hy;rw[hx']at this;cases this;exact h.dwr _ ⟨id,o,_,hr,e,hy,h0,rfl⟩
 dnew:=fun b e=>h.dnew b (h'.dnew b e)
 glob:=h'.glob
theorem j7.still{G':Gh}{ρ':Nat->Option Nat}{σ1:ASt}{a':Act}{w':World}{r:Nat}(hF:Fr A D G ρ σ a w)(hf:j7 D G ρ σ r)(hr:r<w.heap.size)(hx:Ext (fun b=>w.heap.size<=b) G w G' w')(hrg:∀r,σ1.rg r=none):
 j7 D G' ρ' {σ1 with S:=σ.S} r where
 d:=hf.d
 p:=fun off hp=>(hx.new r off hp).elim (hf.p off) fun h=>by omega
 obj:=fun id o x e hi h0 hb=>by
  obtain⟨y,hy,_⟩:=hF.sim.obj id o e;have:=hx.ι _ _ hy;rw[hi]at this;cases this;exact hf.obj id o _ e hy h0 hb
 reg:=fun q cs e=>by rw[show({σ1 with S:=σ.S}:ASt).rg q=σ1.rg q from rfl,hrg q]at e;cases e
theorem zuR{R:ACode->ASt->Option (zL×ASt)}(l:Ok P A K)(p:jJ P A K R){ops:Array Oper}{Q:Exit->Act->World->Prop}{rest:List Nat}(n k:Nat)(is:List zu)(σ1:ASt)
 (q:G.K=K) (g:Fr A D G ρ σ a w) (e:∀r,σ.rg r=none) (s:∀j,j<n->∃o i,ops[k+j]?=some o/\is[j]?=some i/\vO P K ops o i=true) (t:is.length=n) (u:yK A R is σ.still=some σ1) (f:σ1.S=σ.still.S) (d:∀r,σ1.rg r=none)
 (v:∀G' ρ' a' w',Fr A D G' ρ' {σ1 with S:=σ.S} a' w'->Ext (fun b=>w.heap.size<=b) G w G' w'->wpOps P ops Q rest a' w'):wpOps P ops Q (List.range' k n++rest) a w:=
 zfW (D:=fun b=>w.heap.size<=b) l p n k is σ.still σ1 G ρ a w q (g.still e) s t u fun G' ρ' a' w' x h=>v G' ρ' a' w' (g.unstill x h f d) h
theorem zdy{ops:Array Oper}{Q:Exit->Act->World->Prop}{k:Nat}{rest:List Nat}{o:Oper}{x:Value}{w':World}(d:ops[k]?=some o)(e:o.guard=none)(b:(execOp a.eval o).run P w=.ok (.value x) w')
 (h:wpOps P ops Q rest (a.put o.dst x) w'):wpOps P ops Q (k::rest) a w:=by
 rw[wpOps_cons];unfold wpOp;rw[d];have f:Region.wanted o (yielded ops a.tmps)=true:=by unfold Region.wanted;rw[e]
 simp only[f,if_true];left;unfold Oper.wp;rw[b];exact h
def qv(ms:List MapEntry):List (Value×AV):=ms.map fun e=>(e.key,.sc e.val)
def zge(es:List (Value×AV)):Bool:=es.all fun e=>match e.2 with| .sc _=>true|_=>false
theorem zoY:∀{es:List (Value×AV)} {ms:List MapEntry},es.map (·.1)=ms.map (·.key)->zx G w (es.map (·.2)) (ms.map (·.val))->zge es=true->es=qv ms/\∀e∈ms,jw e.val=true
 |[],[],_,_,_=>⟨rfl,by simp⟩
 |[],_::_,h,_,_=>by simp at h
 |_::_,[],h,_,_=>by simp at h
 |(k,v)::es,e::ms,h,hr,hs=>by
  simp only[xao,xak]at h;simp only[zge,List.all_cons,xab]at hs;simp only[xao]at hr;cases hr with
  |cons h1 h2=>
   obtain⟨d,f⟩:=zoY h.2 h2 hs.2;cases v with
   |sc u=>
    cases h1 with
    |sc hu=>
     refine⟨?_,?_⟩
     ·rw[d];simp only[qv,xao,h.1]
     ·intro x b;rcases xaz.1 b with rfl|b
      ·exact hu
      ·exact f x b
   |_=>simp at hs
theorem ztq:∀{ms:List MapEntry},(∀e∈ms,jw e.val=true)->zx G w ((qv ms).map (·.2)) (ms.map (·.val))
 |[],_=>.nil
 |e::ms,h=>.cons (.sc (h e (by simp))) (ztq fun x b=>h x (by simp[b]))
theorem zBR{ms:List MapEntry}:(qv ms).map (·.1)=ms.map (·.key):=by
 induction ms with
 |nil=>rfl
 |cons e ms ih=>simp only[qv,xao]at ih ⊢;rw[ih]
theorem zJD{a b:Value}(h:qO a b=some true):a=b:=by
 cases a<;>cases b<;>simp only[qO]at h<;>try (cases h;done)
 ·split at h
  ·rename_i d;simp only[Option.some.injEq,beq_iff_eq]at h;rw[d,h]
  ·cases h
 ·simp only[Option.some.injEq]at h;rw[zbf.1 h]
theorem zrg{str:Bool}{d:TypeDesc}(q:(str=true/\d=.string)\/(str=false/\∃k,d=.int k)):∀{ms:List MapEntry} {i:Nat} {e:MapEntry},(∀x∈ms,qM x.key=str)->(∀x∈ms,∀y∈ms,∃b,qO x.key y.key=some b)->(ms.map (·.key)).Nodup->e∈ms->
 ∃j,ms[j]?=some e/\Instr.findNow d e.key ms i=some (some (i+j,e.val))
 |[],_,_,_,_,_,h=>by cases h
 |x::ms,i,e,hk,hsame,hn,h=>by
  obtain⟨b,l⟩:=hsame e h x (by simp);have n:=zm5 q (hk e h) l;simp only[Instr.findNow,n];cases b with
  |true=>
   have g:e.key=x.key:=zJD l;have:e=x:=by
    rcases xaz.1 h with h|h
    ·exact h
    ·simp only[xao,List.nodup_cons]at hn;have:e.key∈ms.map (·.key):=List.mem_map_of_mem (f:=fun x:MapEntry=>x.key) h;rw[g]at this;exact absurd this hn.1
   subst this;exact⟨0,rfl,rfl⟩
  |false=>
   have o:e≠x:=by rintro rfl;exact zuu l rfl
   have r:e∈ms:=(xaz.1 h).resolve_left o;simp only[xao,List.nodup_cons]at hn;obtain⟨j,s,t⟩:=zrg q (i:=i+1) (fun y p=>hk y (by simp[p])) (fun y p z u=>hsame y (by simp[p]) z (by simp[u])) hn.2 r;exact⟨j+1,by simpa using s,by rw[t,Nat.add_assoc,Nat.add_comm 1 j]⟩
theorem zoX:∀{ms:List MapEntry} {j:Nat} {e:MapEntry},(ms.map (·.born)).Nodup->ms[j]?=some e->ms.eraseIdx j=ms.filter fun x=>x.born !=e.born
 |[],_,_,_,h=>by simp at h
 |x::ms,0,e,hn,h=>by
  simp at h;subst h;simp only[xao,List.nodup_cons]at hn;simp only[List.eraseIdx_cons_zero,List.filter_cons,bne_self_eq_false,xau,if_false];rw[List.filter_eq_self.2];intro y d;have:y.born≠x.born:=by
   rintro b;exact hn.1 (by rw[<-b];exact List.mem_map_of_mem (f:=fun x:MapEntry=>x.born) d)
  simpa using this
 |x::ms,j+1,e,hn,h=>by
  simp at h;simp only[xao,List.nodup_cons]at hn;have g:e∈ms:=xaj h;have:x.born≠e.born:=by
   rintro b;exact hn.1 (by rw[b];exact List.mem_map_of_mem (f:=fun x:MapEntry=>x.born) g)
  have b:(x.born !=e.born)=true:=by simpa using this
  simp only[List.eraseIdx_cons_succ,List.filter_cons,b,if_true,zoX hn.2 h]
theorem zHO{b ms:List MapEntry}{keep:MapEntry->Bool}{seen:Array Nat}{e:MapEntry}(k:ms=b.filter fun x=>keep x||!seen.contains x.born)(n:(b.map (·.born)).Nodup)(p:e∈ms):
 (keep e=true->ms=b.filter fun x=>keep x||!(seen.push e.born).contains x.born)/\
 (keep e=false->∀j,ms[j]?=some e->ms.eraseIdx j=b.filter fun x=>keep x||!(seen.push e.born).contains x.born):=by
 have d:e∈b:=by rw[k]at p;exact(List.mem_filter.1 p).1
 have inj:∀x∈b,x.born=e.born->x=e:=by
  intro x i g;clear k p
  induction b with
  |nil=>cases i
  |cons y l ih=>
   simp only[xao,List.nodup_cons]at n;rcases xaz.1 i with rfl|o
   ·rcases xaz.1 d with h|h
    ·exact h.symm
    ·have:=List.mem_map_of_mem (f:=fun x:MapEntry=>x.born) h;simp only[<-g]at this;exact absurd this n.1
   ·rcases xaz.1 d with rfl|h
    ·have:=List.mem_map_of_mem (f:=fun x:MapEntry=>x.born) o;simp only[g]at this;exact absurd this n.1
    ·exact ih n.2 h o
 constructor
 ·intro q;rw[k];apply List.filter_congr;intro x i;by_cases g:x.born=e.born
  ·rw[inj x i g,q];simp
  ·have:(seen.push e.born).contains x.born=seen.contains x.born:=by
    simp only[Array.contains_push];have:(x.born==e.born)=false:=by simpa using g
    simp[this]
   rw[this]
 ·intro q j s;have r:(ms.map (·.born)).Nodup:=by rw[k];exact(List.filter_sublist.map _).nodup n
  rw[zoX r s,k,List.filter_filter];apply List.filter_congr;intro x i;by_cases g:x.born=e.born
  ·rw[inj x i g,q];simp
  ·have t:(x.born==e.born)=false:=by simpa using g
   simp only[Array.contains_push,bne,t,Bool.not_false,Bool.true_and,Bool.false_or,Bool.or_false]
end
section
variable{P:Program}{K:Nat->Option Nat}{m:Nat->jD}{ext:Nat->Bool}{c:Code}
theorem k6{a b:ACode}(h:zZ P K m ext c (.seq a b)=true):∃x y,c=.seq x y/\zZ P K m ext x a=true/\zZ P K m ext y b=true:=by
 cases c with
 |seq x y=>simp only[zZ,xab]at h;exact⟨x,y,rfl,h.1,h.2⟩
 |_=>simp[zZ]at h
theorem zrM{a:zo}{b d:ACode}(h:zZ P K m ext c (.cond a b d)=true):∃o x y,c=.cond o x y/\kf K a o=true/\zZ P K m ext x b=true/\zZ P K m ext y d=true:=by
 cases c with
 |cond o x y=>simp only[zZ,xab]at h;exact⟨o,x,y,rfl,h.1.1,h.1.2,h.2⟩
 |_=>simp[zZ]at h
theorem zrL{i:Nat}{b:ACode}(h:zZ P K m ext c (.block i b)=true):∃x,c=.block i x/\zZ P K m ext x b=true:=by
 cases c with
 |block j x=>simp only[zZ,xab,beq_iff_eq]at h;exact⟨x,by rw[h.1],h.2⟩
 |_=>simp[zZ]at h
theorem zA2{tm rg:List Nat}{b:ACode}(h:zZ P K m ext c (.loop tm rg b)=true):∃x,c=.loop x/\zZ P K m ext x b=true:=by
 cases c with
 |loop x=>simp only[zZ]at h;exact⟨x,rfl,h⟩
 |_=>simp[zZ]at h
theorem zrN(h:zZ P K m ext c .skip=true):c=.skip:=by
 cases c<;>first|rfl|simp[zZ]at h
theorem zA3(h:zZ P K m ext c .ret=true):c=.ret:=by
 cases c<;>first|rfl|simp[zZ]at h
theorem zA1{i:Nat}(h:zZ P K m ext c (.exit i)=true):c=.exit i:=by
 cases c with
 |exit j=>simp only[zZ,beq_iff_eq]at h;rw[h]
 |_=>simp[zZ]at h
theorem zdz{i j:zu}{l:List zu}(h:zZ P K m ext c (.ops (i::j::l))=true):∃id os draw,c=.region id os draw/\wg P K os os.toList (i::j::l)=true/\(draw=true->zjm P os ((i::j::l).map (yh m ext))=true):=by
 cases c with
 |region id os draw=>
  simp only[zZ,xab,Bool.or_eq_true,Bool.not_eq_true']at h
  exact⟨id,os,draw,rfl,h.1,fun e=>by rcases h.2 with h|h;· rw[e]at h;cases h
                                     ·exact h⟩
 |_=>simp[zZ]at h
def kE:Code->Bool
 | .region _ _ d=>!d
 | .seq a b=>kE a&&kE b
 | .cond _ a b=>kE a&&kE b
 | .block _ c| .loop c| .scope c=>kE c
 |_=>true
theorem zdS{os:Array Oper}{is:List zu}(h:wg P K os os.toList is=true):os.size=is.length/\∀j,j<is.length->∃o i,os[j]?=some o/\is[j]?=some i/\vO P K os o i=true:=by
 obtain⟨d,e⟩:=zdT h;refine⟨by simpa using d,fun j k=>?_⟩
 have b:j<os.size:=by have:os.size=is.length:=by simpa using d
                      omega
 obtain⟨i,f,g⟩:=e j os[j] (by simp[b]);exact⟨os[j],i,by simp[b],f,g⟩
end
def zlt:ACode:=
 .seq (.ops [
  ⟨some 18,.nextM,[.t 17],none⟩,
  ⟨some 19,.pur (.extract 0),[.t 18],none⟩])<|
 .seq (.cond (.t 19) (.skip) (.exit 0))<|
 .block 1 (.seq (.ops [
  ⟨some 20,.entryM,[.t 17],none⟩,
  ⟨some 21,.pur (.extract 0),[.t 20],none⟩,
  ⟨some 22,.pur (.extract 1),[.t 20],none⟩,
  ⟨some 6,.pur .mov,[.t 21],none⟩,
  ⟨some 7,.pur .mov,[.t 22],none⟩])<|
  .seq (.ops [
   ⟨some 23,.pur .mov,[.t 7],none⟩,
   ⟨some 24,.pur .mov,[.t 1],none⟩,
   ⟨some 25,.pur (.bin .leq),[.t 23,.t 24],none⟩])<|
  .cond (.t 25) (.ops [
   ⟨some 26,.pur .mov,[.t 0],none⟩,
   ⟨some 27,.pur .nilchk,[.t 26],none⟩,
   ⟨some 28,.pur (.faddr 1),[.t 27],none⟩,
   ⟨some 29,.ld none 1 false,[.t 28],none⟩,
   ⟨some 30,.pur .mov,[.t 6],none⟩,
   ⟨none,.mapdel true,[.t 29,.t 30],none⟩]) (.skip))
def zlu:ACode:=
 .seq (.ops [
  ⟨some 4,.pur .mov,[.k (.i (0))],none⟩])<|
 .seq (.ops [
  ⟨some 8,.pur .mov,[.t 0],none⟩,
  ⟨some 9,.pur .nilchk,[.t 8],none⟩,
  ⟨some 10,.pur (.faddr 1),[.t 9],none⟩,
  ⟨some 11,.ld none 1 false,[.t 10],none⟩,
  ⟨some 12,.lenM,[.t 11],none⟩,
  ⟨some 5,.pur .mov,[.t 12],none⟩])<|
 .seq (.seq (.ops [
  ⟨some 13,.pur .mov,[.t 0],none⟩,
  ⟨some 14,.pur .nilchk,[.t 13],none⟩,
  ⟨some 15,.pur (.faddr 1),[.t 14],none⟩,
  ⟨some 16,.ld none 1 false,[.t 15],none⟩,
  ⟨some 17,.rangeM,[.t 16],none⟩])<|
 .block 0 (.loop [6,7,18,19,20,21,22,23,24,25,26,27,28,29,30] [] zlt))<|
 .seq (.ops [
  ⟨some 31,.pur .mov,[.t 5],none⟩,
  ⟨some 32,.pur .mov,[.t 0],none⟩,
  ⟨some 33,.pur .nilchk,[.t 32],none⟩,
  ⟨some 34,.pur (.faddr 1),[.t 33],none⟩,
  ⟨some 35,.ld none 1 false,[.t 34],none⟩,
  ⟨some 36,.lenM,[.t 35],none⟩,
  ⟨some 37,.pur (.bin .sub),[.t 31,.t 36],none⟩,
  ⟨some 4,.pur .mov,[.t 37],none⟩])<|
 .ret
def f53:za:=⟨38,zlu,[.tmp 4]⟩
section
variable{A:zA}{D:Nat->Prop}{G:Gh}{ρ:Nat->Option Nat}{σ:ASt}{a:Act}{w:World}{P:Program}{K:Nat->Option Nat}
theorem zIo{ev:Operand->Value}{o:Oper}{t:TypeId}{x:Operand}{k e:TypeId}{b:Nat}{ms:Array MapEntry}{d:Nat}(f:o.op=.range t x)(g:P.underlying t=some (.map k e))(h:ev x=.map (some b))(i:w.heap[b]?=some (.map ms d)):
 (execOp ev o).run P w=.ok (.value (.pointer (some ⟨w.heap.size,0,none⟩))) (w.alloc (.mapIter (some b) d #[] d)):=by
 unfold execOp;rw[f];simp only[Instr.range,h,xag,und g,zaf i,xac,xah];rfl
theorem ztX{ev:Operand->Value}{o:Oper}{x:Operand}{r:Nat}(b:o.op=.next x false)(d:ev x=.pointer (some ⟨r,0,none⟩)){v:Value}{w':World}(h:(Instr.next (.pointer (some ⟨r,0,none⟩)) false o.type).run P w=.ok v w'):
 (execOp ev o).run P w=.ok (.value v) w':=by
 unfold execOp;rw[b];simp only[d,xag,h,xac,xah]
theorem zH9{ev:Operand->Value}{o:Oper}{x:Operand}{r:Nat}(b:o.op=.entry x)(d:ev x=.pointer (some ⟨r,0,none⟩)){v:Value}{w':World}(h:(Instr.entry (.pointer (some ⟨r,0,none⟩))).run P w=.ok v w'):
 (execOp ev o).run P w=.ok (.value v) w':=by
 unfold execOp;rw[b];simp only[d,xag,h,xac,xah]
def zaY(now:Int)(e:MapEntry):Bool:=match e.val with| .int _ n=>decide (now<n)|_=>false
theorem zfG{os:Array Oper}{o:Oper}{d:Option Nat}{op:AOp}{xs:List zo}(h:vO P K os o ⟨d,op,xs,none⟩=true):o.dst=d/\yw P K o.op op xs=true/\o.guard=none:=by
 simp only[vO,xab,beq_iff_eq]at h;refine⟨h.1.1,h.1.2,?_⟩;have:=h.2;split at this
 ·assumption
 ·rename_i e;cases e
 ·cases this
theorem zF0{o:Op}{it:Nat}(h:yw P K o .nextM [.t it]=true):o=.next (.tmp it) false:=by
 simp only[yw]at h;split at h
 ·rename_i x;cases x<;>simp[zO,kf]at h;rw[h]
 ·cases h
theorem zFZ{o:Op}{it:Nat}(h:yw P K o .entryM [.t it]=true):o=.entry (.tmp it):=by
 simp only[yw]at h;split at h
 ·rename_i x;cases x<;>simp[zO,kf]at h;rw[h]
 ·cases h
open Go.ChangeMaps (setBlock) in
theorem zCB{r b d c0 f:Nat}{seen:Array Nat}{ms:Array MapEntry}(v:Fr A D G ρ σ a w)(s:j7 D G ρ σ r)(t:w.heap[r]?=some (.mapIter (some b) d seen c0))(u:w.heap[b]?=some (.map ms f))(o:b≠r)
 (g:∀x∈ms.toList,x.born<d) (p:d<=c0) (ty:TypeId):
 ((leftOf ms seen).size=0/\(Instr.next (.pointer (some ⟨r,0,none⟩)) false ty).run P w=.ok (.tuple #[.bool false]) w)\/
 ∃e∈(leftOf ms seen).toList,∃w',(Instr.next (.pointer (some ⟨r,0,none⟩)) false ty).run P w=.ok (.tuple #[.bool true,e.key,e.val]) w'/\Fr A D G ρ σ a w'/\Ext D G w G w'/\w'.heap[r]?=some (.mapIter (some b) d (seen.push e.born) f)/\w'.heap[b]?=some (.map ms f)/\w'.heap.size=w.heap.size:=by
 rcases run_next_at (P:=P) w ty r b d c0 seen ms f t u g p with h|⟨e,y,l,i,j⟩
 ·exact .inl h
 ·right;have n:l.heap=w.heap:=by rcases i with rfl|rfl<;>rfl
  have q:Io w l:=by rcases i with rfl|rfl<;>exact⟨rfl,rfl,rfl⟩
  obtain⟨z,B⟩:=v.same n q;have k:l.heap[r]?=some (.mapIter (some b) d seen c0):=by rw[n];exact t
  obtain⟨C,E,F,H⟩:=(z.excl s (j0 k)).stepIter s k (.mapIter (some b) d (seen.push e.born) f);refine⟨e,y,_,j,C.wide (fun _ h=>h.1),B.trans E,F,?_,?_⟩
  ·rw[H b o,n];exact u
  ·show(l.heap.setIfInBounds _ _).size=_;rw[Array.size_setIfInBounds,n]
theorem zCC{R:ACode->ASt->Option (zL×ASt)}(hA:Ok P A K)(hR:jJ P A K R)(hK:G.K=K){os:Array Oper}{Q:Exit->Act->World->Prop}{d n it iid:Nat}
 (M:wg P K os os.toList [⟨some d,.nextM,[.t it],none⟩,⟨some n,.pur (.extract 0),[.t d],none⟩]=true)
 {r b N f c0 O:Nat} {seen:Array Nat} {ms:Array MapEntry} (T:Fr A D G ρ σ a w) (s:∀r,σ.rg r=none) (hf:j7 D G ρ σ r) (U:σ.tm[it]?=some (.ptr iid 0 0)) (hι:G.ι iid=some (r,1,N)) (hd:d<σ.tm.length)
 (hr:w.heap[r]?=some (.mapIter (some b) f seen c0)) (hb:w.heap[b]?=some (.map ms O)) (V:b≠r) (z:∀x∈ms.toList,x.born<f) (W:f<=c0) (X:∀e∈ms.toList,jw e.key=true) (Y:∀e∈ms.toList,jw e.val=true)
 (B:(leftOf ms seen).size=0->∀G' ρ' a' w',Fr A D G' ρ' {σ with tm:=(σ.tm.set d (.tup [.b false])).set n (.b false)} a' w'->Ext (fun b=>w.heap.size<=b) G w G' w'->Q .normal a' w')
 (Z:∀e∈(leftOf ms seen).toList,e∈ms.toList->∀G' ρ' a' w',Fr A D G' ρ' {σ with tm:=(σ.tm.set d (.tup [.b true,.sc e.key,.sc e.val])).set n (.b true)} a' w'->Ext D G w G' w'->j7 D G' ρ' {σ with tm:=(σ.tm.set d (.tup [.b true,.sc e.key,.sc e.val])).set n (.b true)} r->
  w'.heap[r]?=some (.mapIter (some b) f (seen.push e.born) O)->w'.heap[b]?=some (.map ms O)->Q .normal a' w'):
 wpOps P os Q (List.range os.size) a w:=by
 obtain⟨aa,C⟩:=zdS M;obtain⟨o0,i0,E,F,ab⟩:=C 0 (by simp);simp at F;subst F;obtain⟨p,l,hg⟩:=zfG ab;have l:=zF0 l;have hx:a.eval (.tmp it)=.pointer (some ⟨r,0,none⟩):=by
  have:=T.tmp it _ U;have:Rep G w (.ptr iid 0 0) (a.tmps.getD it undef):=this;obtain⟨b',sz',N',q,h⟩:=Rep.ptr_inv (x:=a.tmps.getD it undef) this;rw[hι]at q;cases q;show a.tmps.getD it undef=_;rw[h]
  try simp
 have e2:List.range os.size=0::(List.range' 1 1++[]):=by rw[aa];rfl
 rw[e2];have rest:∀(u:AV) (c:Bool) (vs:List AV) (G1:Gh) (a1:Act) (H:World),u=.tup (.b c::vs)->G1.K=K->Fr A D G1 ρ {σ with tm:=σ.tm.set d u} a1 H->
  (∀G' ρ' a' w',Fr A D G' ρ' {σ with tm:=(σ.tm.set d u).set n (.b c)} a' w'->Ext (fun b=>H.heap.size<=b) G1 H G' w'->Q .normal a' w')->wpOps P os Q (List.range' 1 1++[]) a1 H:=by
  intro u c vs G1 a1 H hu ac ad hq;refine zuR hA hR (σ:={σ with tm:=σ.tm.set d u}) 1 1 [⟨some n,.pur (.extract 0),[.t d],none⟩] ({σ with tm:=(σ.tm.set d u).set n (.b c)}:ASt).still ac ad s ?_ rfl ?_ rfl s ?_
  ·intro j hj;have:j=0:=by omega
   subst this;obtain⟨o,i,q,h,h3⟩:=C 1 (by simp);simp at h;subst h;exact⟨o,_,q,rfl,h3⟩
  ·subst hu;simp[yK,step,qB,evs,zo.ev,ASt.still,y5,ze,pev,xar,xaw,hd,ASt.put,ASt.regs]
  ·intro G' ρ' a' w' q h;exact hq G' ρ' a' w' q h
 rcases zCB (P:=P) T hf hr hb V z W o0.type with⟨h0,g⟩|⟨e,L,w',g,y,ae,I,af,ag⟩
 ·refine zdy E hg (ztX l hx g) ?_;have hp:=T.put o0.dst (v:=.tup [.b false]) (x:=.tuple #[.bool false]) (Rep.trep (.tup (.cons (.sc rfl) .nil)));rw[p]at hp ⊢;exact rest _ false [] G _ w rfl hK hp (B h0)
 ·refine zdy E hg (ztX l hx g) ?_;have hm:e∈ms.toList:=by
   unfold leftOf at L;simp at L ⊢;exact L.1
  have hp:=y.put o0.dst (v:=.tup [.b true,.sc e.key,.sc e.val]) (x:=.tuple #[.bool true,e.key,e.val]) (Rep.trep (.tup (.cons (.sc rfl) (.cons (.sc (X e hm)) (.cons (.sc (Y e hm)) .nil)))));rw[p]at hp ⊢;refine rest _ true _ G _ w' rfl hK hp fun G' ρ' a' w2 q h=>?_;have hsame:∀k o,w'.heap[k]?=some o->w2.heap[k]?=some o:=fun k o J=>by rw[h.keep k (j0 J) (by have:=j0 J;omega)];exact J
  refine Z e L hm G' ρ' a' w2 q (ae.trans (h.weak fun k J=>y.dnew k J)) ?_ (hsame _ _ I) (hsame _ _ af);exact j7.still (a':=a') (ρ':=ρ') (σ1:={σ with tm:=(σ.tm.set d (.tup [.b true,.sc e.key,.sc e.val])).set n (.b true)}) y hf (j0 I) h s
theorem zAc{os:Array Oper}{Q:Exit->Act->World->Prop}{d it iid:Nat}{j:Oper}{rest:List Nat}(k:os[0]?=some j)(l:vO P K os j ⟨some d,.entryM,[.t it],none⟩=true)
 {r b N f n:Nat} {seen:Array Nat} {ms:Array MapEntry} {e:MapEntry} (s:Fr A D G ρ σ a w) (o:σ.tm[it]?=some (.ptr iid 0 0)) (hι:G.ι iid=some (r,1,N))
 (y:w.heap[r]?=some (.mapIter (some b) f (seen.push e.born) n)) (z:w.heap[b]?=some (.map ms n)) (B:e∈ms.toList) (C:(ms.toList.map (·.born)).Nodup) (p:jw e.key=true) (q:jw e.val=true)
 (h:∀a',Fr A D G ρ {σ with tm:=σ.tm.set d (.tup [.sc e.key,.sc e.val])} a' w->wpOps P os Q rest a' w):wpOps P os Q (0::rest) a w:=by
 obtain⟨i,g,E⟩:=zfG l;have g:=zFZ g;have F:a.eval (.tmp it)=.pointer (some ⟨r,0,none⟩):=by
  have:=s.tmp it _ o;have:Rep G w (.ptr iid 0 0) (a.tmps.getD it undef):=this;obtain⟨b',sz',I,u,H⟩:=Rep.ptr_inv (x:=a.tmps.getD it undef) this;rw[hι]at u;cases u;show a.tmps.getD it undef=_;rw[H]
  try simp
 refine zdy k E (zH9 g F (run_entry_at w r b f seen ms n e y z B C)) ?_;have hp:=s.put j.dst (v:=.tup [.sc e.key,.sc e.val]) (x:=.tuple #[e.key,e.val]) (Rep.trep (.tup (.cons (.sc p) (.cons (.sc q) .nil))));rw[i]at hp ⊢;exact h _ hp
theorem zFY{o:Op}{x y:Nat}(h:yw P K o (.mapdel true) [.t x,.t y]=true):∃as ts t kt f d,o=.call {callee:=.builtin .delete,args:=as,argTypes:=ts}/\as.toList=[.tmp x,.tmp y]/\ts[0]?=some t/\zj3 P t true kt f d:=by
 simp only[yw]at h;split at h
 ·rename_i as ts;simp only[xab]at h;obtain⟨e,b⟩:=h;split at e
  ·rename_i t g;simp only[beq_iff_eq]at e;obtain⟨kt,f,d,i⟩:=zi9 e;refine⟨as,ts,t,kt,f,d,rfl,?_,g,i⟩;generalize as.toList=l at b
   match l,b with
   |[p,q],b=>
    simp only[zO,xab]at b;cases p<;>simp[kf]at b;cases q<;>simp[kf]at b;rw[b.1,b.2]
   |[],b=>simp[zO]at b
   |[_],b=>simp[zO]at b
   |_::_::_::_,b=>simp[zO]at b
  ·cases e
 ·cases h
theorem zzT{os:Array Oper}{Q:Exit->Act->World->Prop}{x y k mid:Nat}{o:Oper}{rest:List Nat}(X:os[k]?=some o)(z:vO P K os o ⟨none,.mapdel true,[.t x,.t y],none⟩=true)
 {b sz N g:Nat} {ms:Array MapEntry} {e:MapEntry} (B:Fr A D G ρ σ a w) (l:σ.tm[x]?=some (.mp mid)) (C:σ.tm[y]?=some (.sc e.key)) (hι:G.ι mid=some (b,sz,N)) (E:σ.S.ro<=mid) (Y:σ.S.heap mid=some (.map (qv ms.toList)))
 (V:w.heap[b]?=some (.map ms g)) (Z:e∈ms.toList) (n:qV ms g) (f:∀e∈ms.toList,qM e.key=true) (F:∀e∈ms.toList,jw e.val=true)
 (h:∀j a',ms.toList[j]?=some e->Fr A D G ρ {σ with S:=σ.S.set mid (some (.map (qv (ms.toList.eraseIdx j))))} a' {w with heap:=w.heap.setIfInBounds b (.map (ms.eraseIdxIfInBounds j) g)}->
  Ext D G w G {w with heap:=w.heap.setIfInBounds b (.map (ms.eraseIdxIfInBounds j) g)}->wpOps P os Q rest a' {w with heap:=w.heap.setIfInBounds b (.map (ms.eraseIdxIfInBounds j) g)}):wpOps P os Q (k::rest) a w:=by
 obtain⟨r,H,hg⟩:=zfG z;obtain⟨as,ts,t,kt,et,d,I,J,L,u⟩:=zFY H;have M:a.eval (.tmp x)=.map (some b):=by
  have:=B.tmp x _ l;have:Rep G w (.mp mid) (a.tmps.getD x undef):=this;obtain⟨b',sz',N',v,O⟩:=Rep.mp_inv (x:=a.tmps.getD x undef) this;rw[hι]at v;cases v;exact O
 have R:a.eval (.tmp y)=e.key:=by
  have:=B.tmp y _ C;have:Rep G w (.sc e.key) (a.tmps.getD y undef):=this;generalize T:a.tmps.getD y undef=q at this;cases this;exact T
 have hsame:∀x∈ms.toList,∀y∈ms.toList,∃b,qO x.key y.key=some b:=by
  intro x l y C;have v:=f x l;have O:=f y C;revert v O;cases x.key<;>cases y.key<;>simp[qM,qO]
 obtain⟨j,hj,W⟩:=zrg u.kind (i:=0) f hsame n.2.2 Z;rw[Nat.zero_add]at W;have s:as.map a.eval=#[.map (some b),e.key]:=by
  apply Array.toList_inj.1;rw[Array.toList_map,J,xao,xao,List.map_nil,M,R]
 have U:∀e∈ms.toList,jw e.key=true:=by
  intro x l;have:=f x l;cases z:x.key<;>rw[z]at this<;>simp[qM]at this;rfl
 obtain⟨k1,k2⟩:=B.writeMap (es':=qv (ms.toList.eraseIdx j)) (ms':=ms.eraseIdxIfInBounds j) (c':=g) E Y hι (by rw[zBR,zb2]) (by rw[zb2];exact ztq fun x l=>F x (List.mem_of_mem_eraseIdx l))
  (by rw[List.all_eq_true];intro p hp
      obtain⟨q,T,rfl⟩:=List.mem_map.1 hp;exact U q (List.mem_of_mem_eraseIdx T)) (n.sub (by rw[zb2];exact List.eraseIdx_sublist _ _))
 refine zdy (x:=.tuple #[]) (w':={w with heap:=w.heap.setIfInBounds b (.map (ms.eraseIdxIfInBounds j) g)}) X hg ?_ ?_
 ·rw[vI I,s];simp only[builtin,Builtin.delete_,L,List.getElem?_toArray,xas,List.getElem?_cons_succ,xag,und u.map,zaf V,za1 u _ 9999,za3 u.key W,zeb V,xac,xah]
 ·rw[r];exact h j _ hj k1 k2
end
section
variable{A:zA}{D:Nat->Prop}{G:Gh}{ρ:Nat->Option Nat}{σ:ASt}{a:Act}{w:World}{P:Program}{K:Nat->Option Nat}
theorem zuG(S:AS)(id:Nat)(x y:Option yX):(S.set id x).set id y=S.set id y:=by
 unfold AS.set;simp only[AS.mk.injEq,and_true];funext j;split<;>rfl
structure zcN(A:zA)(K:Nat->Option Nat)(D:Nat->Prop)(G0:Gh)(w0:World)(S1:AS)(cid row mid iid r b:Nat)(room:AV)(now was:Int)(cl:Nat)(ms0:List MapEntry)
 (G:Gh) (ρ:Nat->Option Nat) (σ:ASt) (a:Act) (w:World) (ms:Array MapEntry) (seen:Array Nat):Prop where
 hK:G.K=K
 len:σ.tm.length=38
 t0:σ.tm[0]?=some (.ptr cid row 0)
 t1:σ.tm[1]?=some (.i now)
 t5:σ.tm[5]?=some (.i was)
 t17:σ.tm[17]?=some (.ptr iid 0 0)
 rg:∀r,σ.rg r=none
 S:σ.S=S1.set mid (some (.map (qv ms.toList)))
 fr:Fr A D G ρ σ a w
 ext:Ext D G0 w0 G w
 free:j7 D G ρ σ r
 it:∃N,G.ι iid=some (r,1,N)
 mp:∃sz N,G.ι mid=some (b,sz,N)
 ro:S1.ro<=mid
 hc:∃z rs,S1.heap cid=some (.rows z rs)/\rs[row]?=some [room,.mp mid]
 ne:cid≠mid
 hr:∃c0,w.heap[r]?=some (.mapIter (some b) cl seen c0)/\cl<=c0
 hb:w.heap[b]?=some (.map ms cl)
 br:b≠r
 born:qV ms cl
 str:∀e∈ms.toList,qM e.key=true
 int:∀e∈ms.toList,∃n,e.val=.int .i64 n
 flt:ms.toList=ms0.filter fun x=>zaY now x||!seen.contains x.born
 nd:(ms0.map (·.born)).Nodup
theorem zsa{ms ms':Array MapEntry}{seen:Array Nat}{e:MapEntry}(b:e∈(leftOf ms seen).toList)(f:ms'.toList.Sublist ms.toList):(leftOf ms' (seen.push e.born)).size<(leftOf ms seen).size:=by
 have d:∀(m:Array MapEntry) (s:Array Nat),(leftOf m s).size=(m.toList.filter fun x=>!s.contains x.born).length:=by
  intro m s;unfold leftOf;rw[<-Array.length_toList,Array.toList_filter]
 rw[d,d];have g:e∈ms.toList.filter fun x=>!seen.contains x.born:=by
  unfold leftOf at b;rw[Array.toList_filter]at b;exact b
 have h:(ms'.toList.filter fun x=>!(seen.push e.born).contains x.born).Sublist ((ms.toList.filter fun x=>!seen.contains x.born).filter fun x=>x.born !=e.born):=by
  rw[List.filter_filter];refine(f.filter _).trans ?_;have:(ms.toList.filter fun x=>!(seen.push e.born).contains x.born)=ms.toList.filter fun x=>(x.born !=e.born)&&!seen.contains x.born:=by
   apply List.filter_congr;intro x _;simp only[Array.contains_push,Bool.not_or,bne,Bool.and_comm]
  rw[this];exact List.Sublist.refl _
 refine Nat.lt_of_le_of_lt h.length_le ?_;have i:((ms.toList.filter fun x=>!seen.contains x.born).filter fun x=>x.born !=e.born).length<(ms.toList.filter fun x=>!seen.contains x.born).length:=by
  apply List.length_filter_lt_length_iff_exists.2;exact⟨e,g,by simp⟩
 exact i
theorem zcC{R:ACode->ASt->Option (zL×ASt)}(l:Ok P A K)(p:jJ P A K R){os:Array Oper}{Q:Exit->Act->World->Prop}{rest:List Nat}{n k:Nat}{is:List zu}{tm':List AV}{r:Nat}(q:G.K=K)
 (e:Fr A D G ρ σ a w) (s:j7 D G ρ σ r) (f:r<w.heap.size) (d:∀r,σ.rg r=none) (t:∀j,j<n->∃o i,os[k+j]?=some o/\is[j]?=some i/\vO P K os o i=true) (u:is.length=n)
 (v:yK A R is σ.still=some {σ.still with tm:=tm'})
 (x:∀(G':Gh) (ρ':Nat->Option Nat) (a':Act) (w':World),Fr A D G' ρ' {σ with tm:=tm'} a' w'->Ext D G w G' w'->j7 D G' ρ' {σ with tm:=tm'} r->(∀(k:Nat) (o:Obj),w.heap[k]?=some o->w'.heap[k]?=some o)->wpOps P os Q rest a' w'):wpOps P os Q (List.range' k n++rest) a w:=by
 refine zuR l p n k is {σ.still with tm:=tm'} q e d t u v rfl d ?_;intro G' ρ' a' w' h1 g;refine x G' ρ' a' w' h1 (g.weak fun b y=>e.dnew b y) (j7.still (a':=a') (ρ':=ρ') (σ1:={σ with tm:=tm'}) e s f g d) ?_;intro k o h;rw[g.keep k (j0 h) (by have:=j0 h;omega)];exact h
theorem zcN.step{G0:Gh}{p:World}{q:AS}{cid row mid iid r b:Nat}{room:AV}{now f:Int}{j:Nat}{g:List MapEntry}{ms:Array MapEntry}{seen:Array Nat}
 (h:zcN A K D G0 p q cid row mid iid r b room now f j g G ρ σ a w ms seen) {G':Gh} {ρ':Nat->Option Nat} {a':Act} {w':World} {tm':List AV} (s:Fr A D G' ρ' {σ with tm:=tm'} a' w') (l:Ext D G w G' w') (t:j7 D G' ρ' {σ with tm:=tm'} r)
 (u:tm'.length=38) (v:tm'[0]?=some (.ptr cid row 0)) (y:tm'[1]?=some (.i now)) (B:tm'[5]?=some (.i f)) (n:tm'[17]?=some (.ptr iid 0 0)) {d:Array Nat} {c0:Nat}
 (hr:w'.heap[r]?=some (.mapIter (some b) j d c0)) (o:j<=c0) (hb:w'.heap[b]?=some (.map ms j)) (k:ms.toList=g.filter fun x=>zaY now x||!d.contains x.born):
 zcN A K D G0 p q cid row mid iid r b room now f j g G' ρ' {σ with tm:=tm'} a' w' ms d:=
 {h with
  hK:=l.K.trans h.hK
  len:=u,t0:=v,t1:=y,t5:=B,t17:=n
  S:=h.S,rg:=h.rg
  fr:=s,ext:=h.ext.trans l,free:=t
  it:=by obtain⟨N,e⟩:=h.it;exact⟨N,l.ι _ _ e⟩
  mp:=by obtain⟨z,N,e⟩:=h.mp;exact⟨z,N,l.ι _ _ e⟩
  hr:=⟨c0,hr,o⟩,hb:=hb,flt:=k}
def PQ(A:zA)(K:Nat->Option Nat)(D:Nat->Prop)(G0:Gh)(f:World)(g:AS)(cid row mid iid r b:Nat)(room:AV)(now e:Int)(h:Nat)(d:List MapEntry)(x:Exit)(a:Act)(w:World):Prop:=
 x=.exit 0/\∃G ρ σ ms seen,zcN A K D G0 f g cid row mid iid r b room now e h d G ρ σ a w ms seen/\ms.toList=d.filter (zaY now)
theorem zGJ{R:ACode->ASt->Option (zL×ASt)}(hA:Ok P A K)(hR:jJ P A K R){m:Nat->jD}{ext:Nat->Bool}{code:Code}(ac:zZ P K m ext code zlt=true)(ad:kE code=true){G0:Gh}{w0:World}{S1:AS}{cid row mid iid r b:Nat}{room:AV}{now F:Int}{cl:Nat}{I:List MapEntry}:
 ∀(n:Nat) (G:Gh) (ρ:Nat->Option Nat) (σ:ASt) (a:Act) (w:World) (ms:Array MapEntry) (seen:Array Nat),(leftOf ms seen).size=n->zcN A K D G0 w0 S1 cid row mid iid r b room now F cl I G ρ σ a w ms seen->
  wr P code (PQ A K D G0 w0 S1 cid row mid iid r b room now F cl I) a w:=by
 unfold zlt at ac;obtain⟨c1,c2,rfl,ba,bc⟩:=k6 ac;obtain⟨cg,ci,cj,rfl,be,_⟩:=zdz ba;obtain⟨c3,c4,rfl,bf,bg⟩:=k6 bc;obtain⟨l,c5,c6,rfl,O,bh,bi⟩:=zrM bf;obtain rfl:=zrN bh;obtain rfl:=zA1 bi;obtain⟨c7,rfl,bj⟩:=zrL bg;obtain⟨c8,c9,rfl,bk,bm⟩:=k6 bj;obtain⟨cm,cn,co,rfl,bn,_⟩:=zdz bk;obtain⟨cp,cr,rfl,ae,af⟩:=k6 bm;obtain⟨cs,ct,cu,rfl,bo,_⟩:=zdz ae;obtain⟨J,cv,cw,rfl,ag,ah,ai⟩:=zrM af;obtain⟨cx,cy,cz,rfl,bp,_⟩:=zdz ah;obtain rfl:=zrN ai;simp[kE]at ad;obtain⟨rfl,rfl,rfl,rfl⟩:=ad;obtain⟨bq,aj⟩:=zdS bn;obtain⟨bs,bt⟩:=zdS bo;obtain⟨bu,ak⟩:=zdS bp;intro n
 induction n using Nat.strongRecOn with
 |ind n ih=>
 intro G ρ σ a w ms seen hn H;refine zsm ?_;refine wp_seq (wp_region ?_);obtain⟨c0,hr,al⟩:=H.hr;obtain⟨N,U⟩:=H.it;have hd:18<σ.tm.length:=by rw[H.len];omega
 have am:∀e∈ms.toList,jw e.key=true:=by
  intro e he;have:=H.str e he;cases Q:e.key<;>rw[Q]at this<;>simp[qM]at this;rfl
 have V:∀e∈ms.toList,jw e.val=true:=by
  intro e he;obtain⟨n,hv⟩:=H.int e he;rw[hv];rfl
 refine zCC hA hR H.hK be H.fr H.rg H.free H.t17 U hd hr H.hb H.br (fun x B=>H.born.1 x B) al am V ?_ ?_
 ·
  intro hz G' ρ' a' w' hF B;have da:=hF;refine wp_seq (wp_cond_false ?_ (wp_exit ?_))
  ·have:=zbU hF (x:=.t 19) (y:=l) (by rw[B.K,H.hK];exact O) (v:=.b false) (by simp[zo.ev,xaw,hd,H.len]);have:Rep G' w' (.b false) (a'.eval l):=this;generalize a'.eval l=q at this;cases this;rfl
  ·have hsame:∀(k:Nat) (o:Obj),w.heap[k]?=some o->w'.heap[k]?=some o:=fun k o Q=>by rw[B.keep k (j0 Q) (by have:=j0 Q;omega)];exact Q
   refine⟨rfl,G',ρ',_,ms,seen,H.step hF (B.weak fun k Q=>H.fr.dnew k Q) (j7.still (a':=a') (ρ':=ρ') (σ1:={σ with tm:=(σ.tm.set 18 (.tup [.b false])).set 19 (.b false)}) H.fr H.free (j0 hr) B H.rg) ?_ ?_ ?_ ?_ ?_ (hsame _ _ hr) al (hsame _ _ H.hb) H.flt,?_⟩
   ·simp[H.len]
   ·simp[xaw,H.t0]
   ·simp[xaw,H.t1]
   ·simp[xaw,H.t5]
   ·simp[xaw,H.t17]
   ·rw[H.flt];have hz:leftOf ms seen=#[]:=Array.eq_empty_of_size_eq_zero hz;apply List.filter_congr;intro x bv;cases Q:zaY now x with
    |true=>rfl
    |false=>
     simp only[Bool.false_or,Bool.not_eq_false'];cases an:seen.contains x.born with
     |true=>rfl
     |false=>
      have hm:x∈ms.toList:=by rw[H.flt,List.mem_filter];exact⟨bv,by rw[an];simp⟩
      have:x∈(leftOf ms seen).toList:=by
       unfold leftOf;rw[Array.toList_filter,List.mem_filter];exact⟨hm,by rw[an];rfl⟩
      rw[hz]at this;simp at this
 ·
  intro e he s G1 ρ1 a1 w1 hF1 hx1 hf1 hr1 hb1;have db:20<σ.tm.length:=by rw[H.len];omega
  obtain⟨L,hv⟩:=H.int e s;have W:G1.K=K:=hx1.K.trans H.hK;refine wp_seq (wp_cond_true ?_ (wp_skip ?_))
  ·have:=zbU hF1 (x:=.t 19) (y:=l) (by rw[W];exact O) (v:=.b true) (by simp[zo.ev,xaw,H.len]);have:Rep G1 w1 (.b true) (a1.eval l):=this;generalize a1.eval l=q at this;cases this;rfl
  refine wp_block (wp_seq (wp_region ?_));rw[bq,show List.range [(⟨some 20,.entryM,[.t 17],none⟩:zu),⟨some 21,.pur (.extract 0),[.t 20],none⟩,⟨some 22,.pur (.extract 1),[.t 20],none⟩,⟨some 6,.pur .mov,[.t 21],none⟩,⟨some 7,.pur .mov,[.t 22],none⟩].length=0::(List.range' 1 4++[])from rfl];obtain⟨o0,i0,bw,ao,bx⟩:=aj 0 (by simp);simp at ao;subst ao;refine zAc bw bx hF1 (iid:=iid) (by simp[xaw,H.t17]) (hx1.ι _ _ U) hr1 hb1 s H.born.2.1 (am e s) (V e s) fun a2 bz=>?_;refine zcC hA hR (r:=r) (is:=[⟨some 21,.pur (.extract 0),[.t 20],none⟩,⟨some 22,.pur (.extract 1),[.t 20],none⟩,⟨some 6,.pur .mov,[.t 21],none⟩,⟨some 7,.pur .mov,[.t 22],none⟩]) (tm':=(((((((σ.tm.set 18 (.tup [.b true,.sc e.key,.sc e.val])).set 19 (.b true)).set 20 (.tup [.sc e.key,.sc e.val])).set 21 (.sc e.key)).set 22 (.sc e.val)).set 6 (.sc e.key)).set 7 (.sc e.val)))
   W bz ⟨hf1.d,hf1.p,hf1.obj,hf1.reg⟩ (j0 hr1) H.rg ?_ rfl ?_ ?_
  ·intro j hj;obtain⟨o,i,M,h2,h3⟩:=aj (1+j) (by simp;omega);refine⟨o,i,M,?_,h3⟩;rw[<-h2,Nat.add_comm];rfl
  ·simp[yK,step,qB,evs,zo.ev,ASt.still,y5,ze,pev,xar,xaw,H.len,ASt.put,ASt.regs]
  intro G3 ρ3 a3 w3 hF3 hx3 hf3 same3;show Exit.then _ _ .normal a3 w3;refine wp_seq (wp_region ?_);rw[bs,show List.range [(⟨some 23,.pur .mov,[.t 7],none⟩:zu),⟨some 24,.pur .mov,[.t 1],none⟩,⟨some 25,.pur (.bin .leq),[.t 23,.t 24],none⟩].length=List.range' 0 3++[]from rfl];have ap:G3.K=K:=hx3.K.trans W;refine zcC hA hR (r:=r) (is:=[⟨some 23,.pur .mov,[.t 7],none⟩,⟨some 24,.pur .mov,[.t 1],none⟩,⟨some 25,.pur (.bin .leq),[.t 23,.t 24],none⟩])
   (tm':=((((((((((σ.tm.set 18 (.tup [.b true,.sc e.key,.sc e.val])).set 19 (.b true)).set 20 (.tup [.sc e.key,.sc e.val])).set 21 (.sc e.key)).set 22 (.sc e.val)).set 6 (.sc e.key)).set 7 (.sc e.val)).set 23 (.sc e.val)).set 24 (.i now)).set 25 (.b (decide (L<=now)))))
   ap hF3 hf3 (j0 (same3 _ _ hr1)) H.rg ?_ rfl ?_ ?_
  ·intro j hj;obtain⟨o,i,M,h2,h3⟩:=bt j (by simpa using hj);exact⟨o,i,by rw[Nat.zero_add];exact M,h2,h3⟩
  ·have hl:=H.len;obtain⟨_,M⟩:=xal.1 H.t1;simp[yK,step,qB,evs,zo.ev,ASt.still,y5,ze,pev,xar,xaw,hl,M,ASt.put,ASt.regs,hv,AV.i,vL,AV.b]
  intro G4 ρ4 a4 w4 hF4 hx4 hf4 same4;have X:G4.K=K:=hx4.K.trans ap;show Exit.then _ _ .normal a4 w4;have Y:=same4 _ _ (same3 _ _ hr1);have aq:=same4 _ _ (same3 _ _ hb1);have T:=(hx1.trans hx3).trans hx4;have ca:a4.eval J=.bool (decide (L<=now)):=by
   have:=zbU hF4 (x:=.t 25) (y:=J) (by rw[X];exact ag) (v:=.b (decide (L<=now))) (by simp[zo.ev,xaw,H.len]);have:Rep G4 w4 (.b (decide (L<=now))) (a4.eval J):=this;generalize a4.eval J=q at this;cases this;rfl
  have h:=zHO H.flt H.nd s;have C:zaY now e=!decide (L<=now):=by
   unfold zaY;rw[hv];simp only;by_cases g:L<=now
   ·simp[g]
   ·simp[g];omega
  refine wp_cond ca ?_;by_cases g:L<=now
  ·
   rw[if_pos (by simpa using g)];refine wp_region ?_;rw[bu,show List.range [(⟨some 26,.pur .mov,[.t 0],none⟩:zu),⟨some 27,.pur .nilchk,[.t 26],none⟩,⟨some 28,.pur (.faddr 1),[.t 27],none⟩,⟨some 29,.ld none 1 false,[.t 28],none⟩,⟨some 30,.pur .mov,[.t 6],none⟩,⟨none,.mapdel true,[.t 29,.t 30],none⟩].length=List.range' 0 5++[5]from rfl];obtain⟨z,rs,ar,as⟩:=H.hc;have Z:σ.S.heap cid=some (.rows z rs):=by rw[H.S];simp only[AS.set,if_neg H.ne];exact ar
   refine zcC hA hR (r:=r) (is:=[⟨some 26,.pur .mov,[.t 0],none⟩,⟨some 27,.pur .nilchk,[.t 26],none⟩,⟨some 28,.pur (.faddr 1),[.t 27],none⟩,⟨some 29,.ld none 1 false,[.t 28],none⟩,⟨some 30,.pur .mov,[.t 6],none⟩])
    (tm':=(((((((((((((((σ.tm.set 18 (.tup [.b true,.sc e.key,.sc e.val])).set 19 (.b true)).set 20 (.tup [.sc e.key,.sc e.val])).set 21 (.sc e.key)).set 22 (.sc e.val)).set 6 (.sc e.key)).set 7 (.sc e.val)).set 23 (.sc e.val)).set 24 (.i now)).set 25 (.b (decide (L<=now)))).set 26 (.ptr cid row 0)).set 27 (.ptr cid row 0)).set 28 (.ptr cid row 1)).set 29 (.mp mid)).set 30 (.sc e.key)))
    X hF4 hf4 (j0 Y) H.rg ?_ rfl ?_ ?_
   ·intro j hj;obtain⟨o,i,M,h2,h3⟩:=ak j (by simp;omega);refine⟨o,i,by rw[Nat.zero_add];exact M,?_,h3⟩
    match j,hj with
    |0,_|1,_|2,_|3,_|4,_=>simpa using h2
   ·have hl:=H.len;obtain⟨_,M⟩:=xal.1 H.t0;simp[yK,step,qB,evs,zo.ev,ASt.still,y5,ze,pev,xar,xaw,hl,M,ASt.put,ASt.regs,Z,as,yW,zaU]
   intro G5 ρ5 a5 w5 hF5 hx5 hf5 same5;have au:G5.K=K:=hx5.K.trans X;obtain⟨o5,i5,cb,av,aw⟩:=ak 5 (by simp);simp at av;subst av;have cc:=same5 _ _ Y;have ax:=same5 _ _ aq;have f:=T.trans hx5;obtain⟨zm,Nm,aa⟩:=H.mp;refine zzT (x:=29) (y:=30) cb (by rw[<-au]at aw;exact aw) hF5 (mid:=mid) (by simp[xaw,H.len]) (by simp[xaw,H.len]) (f.ι _ _ aa) ?_ ?_ ax s H.born H.str V fun j a6 hj cd ce=>?_
   ·show σ.S.ro<=mid;rw[H.S];exact H.ro
   ·show σ.S.heap mid=_;rw[H.S];simp[AS.set]
   show wr P _ (PQ A K D G0 w0 S1 cid row mid iid r b room now F cl I) a6 _;have ay:=h.2 (by rw[C];simpa using g) j hj;have u:(ms.eraseIdxIfInBounds j).toList=ms.toList.eraseIdx j:=zb2;refine ih _ (by rw[<-hn];exact zsa he (by rw[u];exact List.eraseIdx_sublist _ _)) G5 ρ5 {σ with S:=σ.S.set mid (some (.map (qv (ms.toList.eraseIdx j)))),tm:=(((((((((((((((σ.tm.set 18 (.tup [.b true,.sc e.key,.sc e.val])).set 19 (.b true)).set 20 (.tup [.sc e.key,.sc e.val])).set 21 (.sc e.key)).set 22 (.sc e.val)).set 6 (.sc e.key)).set 7 (.sc e.val)).set 23 (.sc e.val)).set 24 (.i now)).set 25 (.b (decide (L<=now)))).set 26 (.ptr cid row 0)).set 27 (.ptr cid row 0)).set 28 (.ptr cid row 1)).set 29 (.mp mid)).set 30 (.sc e.key))} a6 _ (ms.eraseIdxIfInBounds j) (seen.push e.born) rfl ?_
   ·have cf:b<w5.heap.size:=j0 ax;refine {hK:=au,len:=?_,t0:=?_,t1:=?_,t5:=?_,t17:=?_,rg:=H.rg,S:=?_,fr:=cd,ext:=(H.ext.trans f).trans ce,free:=?_,it:=⟨N,f.ι _ _ U⟩,mp:=⟨zm,Nm,f.ι _ _ aa⟩,ro:=H.ro,hc:=H.hc,ne:=H.ne,hr:=⟨cl,?_,xad _⟩,hb:=?_,br:=H.br,born:=H.born.sub (by rw[u];exact List.eraseIdx_sublist _ _),str:=?_,int:=?_,flt:=by rw[u];exact ay,nd:=H.nd}
    ·simp[H.len]
    ·simp[xaw,H.t0]
    ·simp[xaw,H.t1]
    ·simp[xaw,H.t5]
    ·simp[xaw,H.t17]
    ·show σ.S.set mid _=_;rw[H.S,zuG,u]
    ·refine⟨hf5.d,hf5.p,?_,hf5.reg⟩;intro id o x E ab h0 az;have E:(σ.S.set mid (some (.map (qv (ms.toList.eraseIdx j))))).heap id=some o:=E;simp only[AS.set]at E;split at E
     ·rename_i hh;subst hh;rw[f.ι _ _ aa]at ab;cases ab;exact H.br az
     ·exact hf5.obj id o x E ab h0 az
    ·show(w5.heap.setIfInBounds b _)[r]?=_;rw[Array.getElem?_setIfInBounds,if_neg H.br];exact cc
    ·show(w5.heap.setIfInBounds b _)[b]?=_;rw[Array.getElem?_setIfInBounds,if_pos rfl,if_pos cf]
    ·intro x B;rw[u]at B;exact H.str x (List.mem_of_mem_eraseIdx B)
    ·intro x B;rw[u]at B;exact H.int x (List.mem_of_mem_eraseIdx B)
  ·rw[if_neg (by simpa using g)];refine wp_skip ?_;show wr P _ (PQ A K D G0 w0 S1 cid row mid iid r b room now F cl I) a4 w4;refine ih _ (by rw[<-hn];exact zsa he (List.Sublist.refl _)) G4 ρ4 _ a4 w4 ms (seen.push e.born) rfl (H.step hF4 T hf4 ?_ ?_ ?_ ?_ ?_ Y (xad _) aq (h.1 (by rw[C];simpa using g)))
   ·simp[H.len]
   ·simp[xaw,H.t0]
   ·simp[xaw,H.t1]
   ·simp[xaw,H.t5]
   ·simp[xaw,H.t17]
def zfn(e:Value×AV):Bool:=qM e.1&&(match e.2 with| .sc (.int .i64 _)=>true|_=>false)
def wH(now:Int)(e:Value×AV):Bool:=match e.2 with| .sc (.int _ n)=>decide (now<n)|_=>false
def wK:List AV->AS->Option (AV×AS)
 |[.ptr cid row 0,.sc (.int .i64 now)],S=>
  match S.heap cid with
  |some (.rows _ rs)=>match rs[row]? with
   |some [_,.mp mid]=>match S.heap mid with
    |some (.map es)=>
     if S.ro<=mid/\es.all zfn=true then
      some (.sc (.int .i64 (IntKind.i64.wrap (es.length-(es.filter (wH now)).length))),{S.set mid (some (.map (es.filter (wH now))))with n:=S.n+1})
     else none
    |_=>none
   |_=>none
  |_=>none
 |_,_=>none
theorem ztf{args:List AV}{S:AS}{r:AV}{S':AS}(h:wK args S=some (r,S')):∃cid row now z rs room mid es,args=[.ptr cid row 0,.sc (.int .i64 now)]/\S.heap cid=some (.rows z rs)/\rs[row]?=some [room,.mp mid]/\
 S.heap mid=some (.map es)/\S.ro<=mid/\es.all zfn=true/\r=.sc (.int .i64 (IntKind.i64.wrap (es.length-(es.filter (wH now)).length)))/\S'={S.set mid (some (.map (es.filter (wH now))))with n:=S.n+1}:=by
 unfold wK at h;split at h
 ·rename_i cid row now;split at h
  ·rename_i z rs d;split at h
   ·rename_i room mid e;split at h
    ·rename_i es f;split at h
     ·rename_i b;cases h;exact⟨cid,row,now,z,rs,room,mid,es,rfl,d,e,f,b.1,b.2,rfl,rfl⟩
     ·cases h
    ·cases h
   ·cases h
  ·cases h
 ·cases h
theorem zB1{now:Int}{e:MapEntry}:wH now (e.key,.sc e.val)=zaY now e:=by
 unfold wH zaY;cases e.val<;>rfl
theorem zAe{now:Int}{ms:List MapEntry}:(qv ms).filter (wH now)=qv (ms.filter (zaY now)):=by
 unfold qv;rw[List.filter_map];congr 1;apply List.filter_congr;intro e _;exact zB1
theorem wr.mono{c:Code}{Q d:Exit->Act->World->Prop}(h:wr P c Q a w)(f:∀e a w,Q e a w->d e a w):wr P c d a w:=by
 intro b k cs;obtain⟨e,a',w',q,r⟩:=h b k cs;exact⟨e,a',w',f _ _ _ q,r⟩
theorem zF3{o:Op}{x:Nat}(h:yw P K o .rangeM [.t x]=true):∃t k e,o=.range t (.tmp x)/\P.underlying t=some (.map k e):=by
 simp only[yw]at h;split at h
 ·rename_i t y;simp only[xab]at h;obtain⟨b,d⟩:=h;cases y<;>simp[zO,kf]at d;subst d;unfold zdB at b;have b:(match P.underlying t with|some (.map _ _)=>true|_=>false)=true:=b;split at b
  ·rename_i k e f;exact⟨t,k,e,rfl,f⟩
  ·cases b
 ·cases h
theorem zGK(hA:Ok P A K){f:Nat}{fn:Func}(hf:P.funcs[f]?=some fn){m:Nat->jD}{ext:Nat->Bool}(ah:vg P K A.mode (ye A) fn f53=true)(W:(match fn.body with|some c=>kE c|none=>false)=true):wo P A K f wK:=by
 intro args S r S' G w bj hK hg hS hr bk;obtain⟨cid,row,now,z,rs,room,mid,es,rfl,g,q,hmid,bm,l,rfl,rfl⟩:=ztf hg;refine⟨?_,⟨rfl,Nat.le_succ _,fun id cz=>if_neg (by omega)⟩⟩;simp only[vg,xab,beq_iff_eq]at ah;obtain⟨⟨hn,ai⟩,hb⟩:=ah;obtain⟨code,y⟩:∃c,fn.body=some c:=by
  cases h:fn.body with
  |none=>rw[h]at hb;cases hb
  |some c=>exact⟨c,rfl⟩
 rw[y]at W hb;have aj:=zne (ρ:=fun _=>none) (A:=A) hS bk hr (fn:=fn) (af:=f53) hn;have ak:cid≠mid:=by rintro rfl;rw[g]at hmid;cases hmid
 refine calls_of_wp hf y ?_;change zZ P K A.mode (ye A) code zlu=true at hb;unfold zlu at hb;obtain⟨c1,c2,rfl,bn,hb⟩:=k6 hb;obtain⟨c3,c4,rfl,bo,hb⟩:=k6 hb;obtain⟨c5,c6,rfl,bp,bq⟩:=k6 hb;obtain⟨c7,c8,rfl,bs,bt⟩:=k6 bp;obtain⟨da,db,dr7,rfl,bu,_⟩:=zdz bs;obtain⟨c9,rfl,bv⟩:=zrL bt;obtain⟨cl,rfl,bw⟩:=zA2 bv;simp[kE]at W;obtain⟨_,_,⟨rfl,al⟩,_⟩:=W;obtain⟨bx,am⟩:=zdS bu;have bz:f53.start [.ptr cid row 0,.sc (.int .i64 now)] S=st 38 (ini [.ptr cid row 0,.sc (.int .i64 now)]) (fun _=>none) S:=znf (show 2<=38 by omega);rw[bz]at aj;have hR:=zmK hA;have an:run A (.ops [⟨some 4,.pur .mov,[.k (.i (0))],none⟩]) (st 38 (ini [.ptr cid row 0,.sc (.int .i64 now)]) (fun _=>none) S)=some (.normal,st 38 (put (ini [.ptr cid row 0,.sc (.int .i64 now)]) 4 (.i 0)) (fun _=>none) S):=by
  show zH A _ _ []=_;simp
 refine wp_seq (wp_mono (hR _ _ _ _ _ _ _ _ _ _ hK bn an aj).1 ?_);rintro x1 a1 w1 ⟨rfl,G1,ρ1,ca,ao⟩;show Code.wp P _ _ a1 w1;have B:∃M,M 0=.ptr cid row 0/\M 1=.i now/\M 5=.i es.length/\run A (.ops [
  ⟨some 8,.pur .mov,[.t 0],none⟩,
  ⟨some 9,.pur .nilchk,[.t 8],none⟩,
  ⟨some 10,.pur (.faddr 1),[.t 9],none⟩,
  ⟨some 11,.ld none 1 false,[.t 10],none⟩,
  ⟨some 12,.lenM,[.t 11],none⟩,
  ⟨some 5,.pur .mov,[.t 12],none⟩]) (st 38 (put (ini [.ptr cid row 0,.sc (.int .i64 now)]) 4 (.i 0)) (fun _=>none) S)=some (.normal,st 38 M (fun _=>none) S):=by
  refine⟨put (put (put (put (put (put (put (ini [.ptr cid row 0,.sc (.int .i64 now)]) 4 (.i 0)) 8 (.ptr cid row 0)) 9 (.ptr cid row 0)) 10 (.ptr cid row 1)) 11 (.mp mid)) 12 (.i es.length)) 5 (.i es.length),?_,?_,?_,?_⟩;rotate_left 3
  ·show zH A _ _ []=_;simp[zn,zY g,q,zmj hmid]
  all_goals simp[zn]
 obtain⟨M,ap,cb,cc,B⟩:=B;have aq:G1.K=K:=ao.K.trans hK;refine wp_seq (wp_mono (hR _ _ _ _ _ _ _ _ _ _ aq bo B ca).1 ?_);rintro x2 a2 w2 ⟨rfl,G2,ρ2,cd,ar⟩;show Code.wp P _ _ a2 w2;have as:G2.K=K:=ar.K.trans aq;refine wp_seq (wp_seq (wp_region ?_));rw[bx,show List.range [(⟨some 13,.pur .mov,[.t 0],none⟩:zu),⟨some 14,.pur .nilchk,[.t 13],none⟩,⟨some 15,.pur (.faddr 1),[.t 14],none⟩,⟨some 16,.ld none 1 false,[.t 15],none⟩,⟨some 17,.rangeM,[.t 16],none⟩].length=List.range' 0 4++[4]from rfl];have C:∃O,O 0=.ptr cid row 0/\O 1=.i now/\O 5=.i es.length/\O 16=.mp mid/\yK A (run A) [
  ⟨some 13,.pur .mov,[.t 0],none⟩,
  ⟨some 14,.pur .nilchk,[.t 13],none⟩,
  ⟨some 15,.pur (.faddr 1),[.t 14],none⟩,
  ⟨some 16,.ld none 1 false,[.t 15],none⟩] (st 38 M (fun _=>none) S)=some (st 38 O (fun _=>none) S):=by
  refine⟨put (put (put (put M 13 (.ptr cid row 0)) 14 (.ptr cid row 0)) 15 (.ptr cid row 1)) 16 (.mp mid),?_,?_,?_,?_,?_⟩;rotate_left 4
  ·have:yQ A [
    ⟨some 13,.pur .mov,[.t 0],none⟩,
    ⟨some 14,.pur .nilchk,[.t 13],none⟩,
    ⟨some 15,.pur (.faddr 1),[.t 14],none⟩,
    ⟨some 16,.ld none 1 false,[.t 15],none⟩] (st 38 M (fun _=>none) S) []=some (.normal,st 38 (put (put (put (put M 13 (.ptr cid row 0)) 14 (.ptr cid row 0)) 15 (.ptr cid row 1)) 16 (.mp mid)) (fun _=>none) S):=by
    simp[zn,zY g,q,ap]
   unfold yQ at this;rw[znw,xaf]at this;obtain⟨σ',Q,E⟩:=this;cases E;exact Q
  all_goals simp[zn,ap,cb,cc]
 obtain⟨O,ce,cf,cg,au,C⟩:=C;refine zfW hA hR 4 0 _ _ _ _ _ _ _ as cd ?_ rfl C ?_
 ·intro j V;obtain⟨o,i,Q,E,h3⟩:=am j (by simp;omega);refine⟨o,i,by rw[Nat.zero_add];exact Q,?_,h3⟩
  match j,V with
  |0,_|1,_|2,_|3,_=>simpa using E
 intro G3 ρ3 a3 w3 hF3 hx3;have ci:G3.K=K:=hx3.K.trans as;obtain⟨o4,i4,cj,F,cm⟩:=am 4 (by simp);simp at F;subst F;obtain⟨av,X,cn⟩:=zfG cm;obtain⟨t,kt,et,X,aw⟩:=zF3 X;obtain⟨⟨b,sz,N⟩,hι,ax⟩:=hF3.sim.obj mid _ hmid;obtain⟨hN,ms,u,Y,Z,aa,co,I⟩:=ax;have cp:a3.eval (.tmp 16)=.map (some b):=by
  have:=hF3.tmp 16 (.mp mid) (by show(je 38 O)[16]?=_;simp[je,au]);have:Rep G3 w3 (.mp mid) (a3.tmps.getD 16 undef):=this;obtain⟨b',sz',N',Q,E⟩:=Rep.mp_inv (x:=a3.tmps.getD 16 undef) this;rw[hι]at Q;cases Q;exact E
 have R:zge es=true:=by
  rw[List.all_eq_true]at l;unfold zge;rw[List.all_eq_true];intro e he;have:=l e he;unfold zfn at this;cases cr:e.2<;>rw[cr]at this<;>simp at this
 obtain⟨ab,cy⟩:=zoY Z aa R;have s:∀e∈ms.toList,qM e.key=true/\∃n,e.val=.int .i64 n:=by
  intro e he;rw[List.all_eq_true]at l;have:=l (e.key,.sc e.val) (by rw[ab];exact List.mem_map_of_mem (f:=fun e:MapEntry=>(e.key,AV.sc e.val)) he);unfold zfn at this;simp only[xab]at this;refine⟨this.1,?_⟩;have E:=this.2;generalize e.val=v at E;split at E
  ·rename_i n hv;cases hv;exact⟨n,rfl⟩
  ·cases E
 refine zdy cj cn (zIo X aw cp Y) ?_;obtain⟨G4,cs,ac,T,F⟩:=hF3.iter (.mapIter (some b) u #[] u);have ay:=cs.put o4.dst (v:=.ptr S.n 0 0) (x:=.pointer (some ⟨w3.heap.size,0,none⟩)) (Rep.trep (by have:=Rep.ptr (w:=w3.alloc (.mapIter (some b) u #[] u)) (r:=0) (c:=0) F;simp only[Nat.zero_mul,Nat.add_zero]at this;exact this));rw[av]at ay ⊢;show Code.wp P (Code.block 0 (Code.loop cl)) _ _ _;refine wp_block (zvc ?_);have az:=j0 Y;have ba:=I.2.1;have H:zcN A K (DW G S w) G w (S.new (.rows 1 [])) cid row mid S.n w3.heap.size b room now es.length u ms.toList G4 ρ3 {(st 38 O (fun _=>none) (S.new (.rows 1 [])))with tm:=(je 38 O).set 17 (.ptr S.n 0 0)} _ _ ms #[]:={
  hK:=ac.K.trans ci
  len:=by simp[je]
  t0:=by simp[je,ce]
  t1:=by simp[je,cf]
  t5:=by simp[je,cg]
  t17:=by simp[je]
  rg:=fun _=>rfl
  S:=by
   show S.new (.rows 1 [])=_;unfold AS.new AS.set;simp only[AS.mk.injEq,and_true];funext j;by_cases V:j=mid
   ·subst V;have:j≠S.n:=by rintro rfl;rw[(hS.fresh _ (xad _)).1]at hmid;cases hmid
    rw[if_neg this,if_pos rfl,hmid,ab]
   ·rw[if_neg V]
  fr:=ay
  ext:=((ao.trans ar).trans hx3).trans ac
  free:=⟨T.d,T.p,T.obj,T.reg⟩
  it:=⟨0,F⟩
  mp:=⟨sz,N,ac.ι _ _ hι⟩
  ro:=bm
  hc:=⟨z,rs,by
   show(if cid=S.n then _ else S.heap cid)=_;rw[if_neg (by rintro rfl;rw[(hS.fresh _ (xad _)).1]at g;cases g)];exact g,q⟩
  ne:=ak
  hr:=⟨u,zcu,xad _⟩
  hb:=by rw[vy az];exact Y
  br:=by omega
  born:=I
  str:=fun e he=>(s e he).1
  int:=fun e he=>(s e he).2
  flt:=by rw[List.filter_eq_self.2];intro x _;simp
  nd:=ba}
 refine wr.mono (zGJ hA hR bw al _ _ _ _ _ _ _ _ rfl H) ?_;rintro x5 a5 w5 ⟨rfl,G5,ρ5,σ5,J,ct,L,bc⟩;show Code.wp P _ _ a5 w5;have cu:G5.K=K:=L.hK;have hσ:σ5=st 38 (fun n=>σ5.tm.getD n .junk) (fun _=>none) σ5.S:=by
  have Q:σ5.rg=fun _=>none:=funext L.rg;have E:σ5.tm=je 38 (fun n=>σ5.tm.getD n .junk):=by
   apply List.ext_getElem?;intro i;unfold je;rw[xat];by_cases hi:i<38
   ·rw[List.getElem?_range hi];have:i<σ5.tm.length:=by rw[L.len];exact hi
    simp[this]
   ·rw[xap (by rw[L.len];omega),xap (by simpa using hi)];rfl
  cases σ5;simp only at Q E;subst Q;unfold st;congr 1
 have f0:σ5.tm.getD 0 .junk=.ptr cid row 0:=by rw[xar,L.t0];rfl
 have f5:σ5.tm.getD 5 .junk=.i es.length:=by rw[xar,L.t5];rfl
 have g0:(fun n=>σ5.tm.getD n .junk) 0=.ptr cid row 0:=f0;have g5:(fun n=>σ5.tm.getD n .junk) 5=.i es.length:=f5;have ad:σ5.S.heap cid=some (.rows z rs):=by
  rw[L.S];simp only[AS.set,AS.new,if_neg ak];rw[if_neg (by rintro rfl;rw[(hS.fresh _ (xad _)).1]at g;cases g)];exact g
 have ae:σ5.S.heap mid=some (.map (qv J.toList)):=by rw[L.S];simp[AS.set]
 have be:qv J.toList=es.filter (wH now):=by rw[bc,ab,zAe]
 have bf:run A (.ops [
  ⟨some 31,.pur .mov,[.t 5],none⟩,
  ⟨some 32,.pur .mov,[.t 0],none⟩,
  ⟨some 33,.pur .nilchk,[.t 32],none⟩,
  ⟨some 34,.pur (.faddr 1),[.t 33],none⟩,
  ⟨some 35,.ld none 1 false,[.t 34],none⟩,
  ⟨some 36,.lenM,[.t 35],none⟩,
  ⟨some 37,.pur (.bin .sub),[.t 31,.t 36],none⟩,
  ⟨some 4,.pur .mov,[.t 37],none⟩]) σ5=some (.normal,st 38 (put (put (put (put (put (put (put (put (fun n=>σ5.tm.getD n .junk) 31 (.i es.length)) 32 (.ptr cid row 0)) 33 (.ptr cid row 0)) 34 (.ptr cid row 1)) 35 (.mp mid)) 36 (.i (qv J.toList).length)) 37 (.i (IntKind.i64.wrap (es.length-(qv J.toList).length)))) 4 (.i (IntKind.i64.wrap (es.length-(qv J.toList).length)))) (fun _=>none) σ5.S):=by
  conv=>lhs;rw[hσ]
  generalize(fun n=>σ5.tm.getD n .junk)=e5 at g0 g5 ⊢;show zH A _ _ []=_;simp[zn,g0,g5,zY ad,q,zmj ae]
 obtain⟨dc,dd,rfl,bg,bh⟩:=k6 bq;obtain rfl:=zA3 bh;refine wp_seq (wp_mono (hR _ _ _ _ _ _ _ _ _ _ cu bg bf L.fr).1 ?_);rintro x6 a6 w6 ⟨rfl,G6,ρ6,cv,cw⟩;show Code.wp P _ _ a6 w6;refine wp_ret ?_;have U:=cv.less (hp:=fun j=>if j=S.n then none else σ5.S.heap j) (fun id o h=>by
  split at h
  ·cases h
  ·exact h)
 obtain⟨_,v,hv,ag⟩:=zgA (af:=f53) U ai (r:=.sc (.int .i64 (IntKind.i64.wrap (es.length-(es.filter (wH now)).length)))) (S':={σ5.S with heap:=fun j=>if j=S.n then none else σ5.S.heap j}) (by
  show za.done f53 (st 38 _ (fun _=>none) {σ5.S with heap:=fun j=>if j=S.n then none else σ5.S.heap j})=_;rw[zkD];show wV (yD [.tmp 4] _ _ _ _) _=_;rw[be];simp[yD,yN])
 have bi:({σ5.S with heap:=fun j=>if j=S.n then none else σ5.S.heap j}:AS)={S.set mid (some (.map (es.filter (wH now))))with n:=S.n+1}:=by
  rw[L.S,be];unfold AS.set AS.new;simp only[AS.mk.injEq,and_true];funext j;have cx:mid≠S.n:=by rintro rfl;rw[(hS.fresh _ (xad _)).1]at hmid;cases hmid
  by_cases V:j=S.n
  ·subst V;rw[if_pos rfl,if_neg (Ne.symm cx),(hS.fresh _ (xad _)).1]
  ·rw[if_neg V,if_neg V]
 refine⟨U.defers,v,hv,v,G6,rfl,ag,?_,L.ext.trans cw,?_⟩
 ·rw[<-bi];exact U.sim
 ·rw[<-bi];exact U.dwr
end
section
variable{P:Program}{K:Nat->Option Nat}
def A0(glob:Nat->Option AV):zA:={funcs:=fun _=>none,mode:=fun _=>.keep,ext:=fun _=>none,glob}
theorem znB:Ok P (A0 fun _=>none) K where
 fn:=fun _ _ _ _ _ h=>by cases h
 ext:=fun _ _ _ _ h=>by cases h
 low:=fun _ _ h=>by cases h
 frm:=fun _ _ _ h=>by cases h
 gpure:=fun _ _ h=>by cases h
theorem zGI{A:zA}{f:Nat}{fn:Func}(g:P.funcs[f]?=some fn)(d:vg P K (fun _=>.keep) (fun _=>false) fn f53=true)(e:(match fn.body with|some c=>kE c|none=>false)=true):wo P A K f wK:=by
 intro args S r S' G w b i j hS k l;exact zGK (A:=A0 fun _=>none) (m:=fun _=>.keep) (ext:=fun _=>false) znB g d e args S r S' G w b i j hS k (fun _ _ h=>by cases h)
theorem zGH{args:List AV}{S:AS}{r:AV}{S':AS}(h:wK args S=some (r,S')):Low S S':=by
 obtain⟨_,_,_,_,_,_,mid,_,_,_,_,_,b,_,_,rfl⟩:=ztf h;exact⟨rfl,Nat.le_succ _,fun id d=>if_neg (by omega)⟩
theorem zfz{α:Type}{k:Nat}{v:α}:∀{l:List (Nat×α)},List.lookup k l=some v->(k,v)∈l
 |[],h=>by cases h
 |(a,b)::l,h=>by
  rw[List.lookup_cons]at h;cases d:(k==a)with
  |true=>
   rw[d]at h;have:k=a:=by simpa using d
   cases h;subst this;exact List.mem_cons_self
  |false=>rw[d]at h;exact List.mem_cons_of_mem _ (zfz h)
structure zcK(P:Program)(K:Nat->Option Nat)(m:Nat->jD)(x:Nat->Bool)(key:Nat)(af:za):Prop where
 ok:∀f,K key=some f->ky P f=true/\∃fn,P.funcs[f]?=some fn/\vg P K m x fn af=true
theorem zcK.mk'{m:Nat->jD}{x:Nat->Bool}{key f:Nat}{fn:Func}{af:za}(d:K key=some f)(e:ky P f=true)(g:P.funcs[f]?=some fn)(b:vg P K m x fn af=true):zcK P K m x key af:=
 ⟨fun i h=>by rw[d]at h;cases h;exact⟨e,fn,g,b⟩⟩
structure jV(P:Program)(A:zA)(K:Nat->Option Nat)(key:Nat)(g:List AV->AS->Option (AV×AS)):Prop where
 ok:∀f,K key=some f->ky P f=true/\wo P A K f g
 low:∀args S r S',g args S=some (r,S')->S.ro<=S.n->Low S S'
 frm:∀cols,A.mode key=.keepF cols->∀args S r S',g args S=some (r,S')->Frm cols S S'
theorem jV.mk'{A:zA}{key f:Nat}{g:List AV->AS->Option (AV×AS)}(d:K key=some f)(e:ky P f=true)(i:wo P A K f g)(j:∀args S r S',g args S=some (r,S')->S.ro<=S.n->Low S S')
 (b:∀cols,A.mode key=.keepF cols->∀args S r S',g args S=some (r,S')->Frm cols S S':=by intro cols h;cases h):jV P A K key g:=
 ⟨fun k h=>by rw[d]at h;cases h;exact⟨e,i⟩,j,b⟩
inductive zbP(P:Program)(K:Nat->Option Nat)(m:Nat->jD)(x:Nat->Bool):List (Nat×za)->Prop
 |nil:zbP P K m x []
 |cons{k:Nat}{af:za}{l:List (Nat×za)}(h:zcK P K m x k af)(t:zbP P K m x l):zbP P K m x ((k,af)::l)
theorem zbP.mem{m:Nat->jD}{x:Nat->Bool}{k:Nat}{af:za}:∀{l:List (Nat×za)},zbP P K m x l->(k,af)∈l->zcK P K m x k af
 |_,.cons h t,hm=>by
  rcases xaz.1 hm with b|b
  ·cases b;exact h
  ·exact t.mem b
inductive zbO(P:Program)(A:zA)(K:Nat->Option Nat):List (Nat×(List AV->AS->Option (AV×AS)))->Prop
 |nil:zbO P A K []
 |cons{k:Nat}{g:List AV->AS->Option (AV×AS)}{l:List (Nat×(List AV->AS->Option (AV×AS)))}(h:jV P A K k g)(t:zbO P A K l):zbO P A K ((k,g)::l)
theorem zbO.mem{A:zA}{k:Nat}{g:List AV->AS->Option (AV×AS)}:∀{l:List (Nat×(List AV->AS->Option (AV×AS)))},zbO P A K l->(k,g)∈l->jV P A K k g
 |_,.cons h t,hm=>by
  rcases xaz.1 hm with b|b
  ·cases b;exact h
  ·exact t.mem b
def zjs(fs:List (Nat×za))(xs:List (Nat×(List AV->AS->Option (AV×AS))))(m:Nat->jD)(glob:Nat->Option AV):zA:=
 {funcs:=fun k=>List.lookup k fs,mode:=m,ext:=fun k=>List.lookup k xs,glob}
theorem zGF{fs:List (Nat×za)}{xs:List (Nat×(List AV->AS->Option (AV×AS)))}{m:Nat->jD}{glob:Nat->Option AV}(hf:zbP P K m (fun k=>(List.lookup k xs).isSome) fs)(hx:zbO P (zjs fs xs m glob) K xs)(hg:∀g v,glob g=some v->v.pure=true):Ok P (zjs fs xs m glob) K where
 fn:=fun key f af hk _ h=>(hf.mem (zfz h)).ok f hk
 ext:=fun key f g hk h=>(hx.mem (zfz h)).ok f hk
 low:=fun key g h=>(hx.mem (zfz h)).low
 frm:=fun key g cols h hm=>(hx.mem (zfz h)).frm cols hm
 gpure:=hg
end
mutual
def ziM:DataW Unit->Option (List Value)
 | .lit (.int k n)=>some [.int k n]
 | .lit (.bool b)=>some [.bool b]
 | .lit (.string l)=>some [.string ⟨l.toArray⟩]
 | .agg ds=>zaK ds
 |_=>none
def zaK:List (DataW Unit)->Option (List Value)
 |[]=>some []
 |d::l=>(ziM d).bind fun a=>(zaK l).map (a++·)
end
def zlF(P:Program)(L:List TypeId):Bool:=L.all fun t=>
 match P.underlying t with
 |some .bool|some (.int _)|some .string=>P.cellsOf t==1
 |some (.struct fs)=>za9 P L fs.toList 0==some (P.cellsOf t)
 |some (.array n e)=>L.contains e&&n*P.cellsOf e==P.cellsOf t
 |_=>false
theorem zrk{d:DataW Unit}{l:List (DataW Unit)}{vs:List Value}(h:zaK (d::l)=some vs):∃a b,ziM d=some a/\zaK l=some b/\vs=a++b:=by
 simp only[zaK,xaa,xaf]at h;obtain⟨a,e,b,f,g⟩:=h;exact⟨a,b,e,f,g.symm⟩
section
variable{P:Program}{w:World}{spare:Nat->Bool}{held:Bool}{enc:TypeId×Value->Unit}
theorem zlG{L:List TypeId}(C:zlF P L=true):∀(fuel:Nat) (t:TypeId) (cs:List Value) (d:DataW Unit) (ps:List MemPlace) (vs:List Value),L.contains t=true->DataW.trod enc P w 0 spare held fuel t cs=some (d,ps)->ziM d=some vs->cs=vs/\cs.length=P.cellsOf t
 |0,_,_,_,_,_,_,h,_=>by simp[DataW.trod]at h
 |fuel+1,t,cs,d,ps,vs,ht,h,p=>by
  have hT:=C;simp only[zlF,List.all_eq_true]at hT;have hT:=hT t (by simpa using ht);unfold DataW.trod at h;split at h
  ·rename_i b j;simp only[j,beq_iff_eq]at hT;cases h;cases p;exact⟨rfl,hT.symm⟩
  ·rename_i k R n j;simp only[j,beq_iff_eq]at hT;split at h
   ·rename_i O;obtain⟨rfl,_⟩:=O;cases h;cases p;exact⟨rfl,hT.symm⟩
   ·cases h
  ·rename_i j;simp[j]at hT
  ·rename_i s j;simp only[j,beq_iff_eq]at hT;split at h
   ·cases h;cases p;exact⟨rfl,hT.symm⟩
   ·cases h
  ·rename_i j;simp[j]at hT
  ·rename_i j;simp[j]at hT
  ·rename_i j;simp[j]at hT
  ·rename_i j;simp[j]at hT
  ·rename_i fs j;rename_i cs _ _;simp only[j,beq_iff_eq]at hT;split at h
   ·rename_i u;simp only[xaf]at h;obtain⟨xs,B,e⟩:=h;cases e;have p:zaK (xs.map (·.1))=some vs:=p;have E:∀(z:List Field) (o:Nat) (ys:List (DataW Unit×List MemPlace)) (vs:List Value),za9 P L z o=some (P.cellsOf t)->(z.mapM fun f=>DataW.trod enc P w 0 spare held fuel f.type ((cs.drop f.offset).take (P.cellsOf f.type)))=some ys->zaK (ys.map (·.1))=some vs->cs.drop o=vs:=by
     intro z
     induction z with
     |nil=>
      intro o ys vs q g l;simp at g;subst g;cases l;simp only[za9,Option.some.injEq]at q;rw[xaB (by omega)]
     |cons f z ih=>
      intro o ys vs q g l;simp only[za9]at q;split at q
      ·rename_i p;obtain⟨rfl,p⟩:=p;rw[List.mapM_cons]at g;simp only[bind,xaa]at g;obtain⟨y,v,x,r,e⟩:=g;cases e;obtain⟨a,b,F,H,rfl⟩:=zrk l;obtain⟨I,_⟩:=zlG C fuel f.type _ _ _ a p v F;have J:=ih _ x b q r H;rw[<-I,<-J,<-List.drop_drop,List.take_append_drop]
      ·cases q
    have:=E fs.toList 0 xs vs hT B p;exact⟨by simpa using this,u⟩
   ·cases h
  ·rename_i n e j;rename_i cs _ _;simp only[j,xab,beq_iff_eq]at hT;obtain⟨Q,M⟩:=hT;split at h
   ·rename_i u;simp only[xaf]at h;obtain⟨xs,B,e⟩:=h;cases e;have p:zaK (xs.map (·.1))=some vs:=p;have E:∀(m k:Nat) (ys:List (DataW Unit×List MemPlace)) (vs:List Value),(k+m)*P.cellsOf e=P.cellsOf t->((List.range' k m).mapM fun i=>DataW.trod enc P w 0 spare held fuel e ((cs.drop (i*P.cellsOf e)).take (P.cellsOf e)))=some ys->zaK (ys.map (·.1))=some vs->cs.drop (k*P.cellsOf e)=vs:=by
     intro m
     induction m with
     |zero=>
      intro k ys vs N g l;simp at g;subst g;cases l;rw[xaB (by rw[u,<-N];exact xad _)]
     |succ m ih=>
      intro k ys vs N g l;rw[List.range'_succ,List.mapM_cons]at g;simp only[bind,xaa]at g;obtain⟨y,v,x,r,e⟩:=g;cases e;obtain⟨a,b,F,H,rfl⟩:=zrk l;obtain⟨I,_⟩:=zlG C fuel _ _ _ _ a Q v F;have J:=ih (k+1) x b (by rw[<-N];congr 1;omega) r H;rw[<-I,<-J,show(k+1)*P.cellsOf e=k*P.cellsOf e+P.cellsOf e by rw[Nat.add_mul,Nat.one_mul],<-List.drop_drop,List.take_append_drop]
    rw[List.range_eq_range']at B;have:=E n 0 xs vs (by rw[Nat.zero_add];exact M) B p;exact⟨by simpa using this,u⟩
   ·cases h
  all_goals
   rename_i j
   first
    |(simp[j]at hT;done)
    |cases h
end
theorem zlX{P:Program}{w:World}:∀{b:List (String×DataW Unit)} {ps:List MemPlace},DataW.LaidVars P w b ps->∀x∈b,∃g t cs fuel p,P.globalNamed x.1=some g/\(P.globals[g]?).map (·.type)=some t/\w.var? P x.1=some cs/\DataW.trod (fun _=>()) P w 0 (fun _=>true) false fuel t cs.toList=some (x.2,p)
 |[],_,_,x,e=>by cases e
 |(n,d)::r,ps,⟨g,t,cs,fuel,p,q,h1,h2,h3,h4,h5,_⟩,x,e=>by
  rcases xaz.1 e with rfl|e
  ·exact⟨g,t,cs,fuel,p,h1,h2,h3,h4⟩
  ·exact zlX h5 x e
theorem zr6{P:Program}{w:World}{b:List (String×DataW Unit)}{L:List TypeId}{n:String}{d:DataW Unit}{vs:List Value}{g t:Nat}(h:laidMetH P b w)(hp:(b.all fun x=>x.2.handleName?.isNone)=true)(j:(n,d)∈b)
 (k:P.globalNamed n=some g) (l:(P.globals[g]?).map (·.type)=some t) (o:zlF P L=true) (q:L.contains t=true) (r:ziM d=some vs):w.var? P n=some vs.toArray:=by
 rw[MakeChecks.laidMetH_plain _ _ _ hp]at h;obtain⟨ps,s,_⟩:=h;obtain⟨y,z,cs,fuel,p,f,i,u,v⟩:=zlX s (n,d) j;rw[k]at f;cases f;rw[l]at i;cases i;obtain⟨e,_⟩:=zlG o fuel _ _ _ _ vs q v r;rw[u,<-e]
theorem zr7{P:Program}{w:World}{b:List (String×DataW Unit)}{n nm:String}{d:DataW Unit}{g t:Nat}(h:laidMetH P b w)(hp:(b.all fun x=>x.2.handleName?.isNone)=true)(k:(n,.iface nm d)∈b)
 (o:P.globalNamed n=some g) (q:(P.globals[g]?).map (·.type)=some t) (r:(match P.underlying t with|some (.interface _)=>true|_=>false)=true):∃u v,w.var? P n=some #[.iface u v]:=by
 rw[MakeChecks.laidMetH_plain _ _ _ hp]at h;obtain⟨ps,s,_⟩:=h;obtain⟨z,B,cs,fuel,p,f,i,y,e⟩:=zlX s _ k;rw[o]at f;cases f;rw[q]at i;cases i;cases fuel with
 |zero=>simp[DataW.trod]at e
 |succ fuel=>
  unfold DataW.trod at e;obtain⟨l⟩:=cs;simp only at e;split at e
  all_goals first
   |(rename_i u v j;exact⟨u,v,y⟩)
   |(rename_i j;simp[j]at r;done)
   |(cases e;done)
theorem zu9{P:Program}{w:World}{n:String}{g:Nat}{c:Array Value}(h:w.var? P n=some c)(b:P.globalNamed n=some g):∃t f,w.heap[g]?=some (.cells c t f):=by
 simp only[World.var?,b,xae]at h;split at h
 ·rename_i cs t f d;cases h;exact⟨t,f,d⟩
 ·cases h
theorem zru{P:Program}{w:World}{K:Nat->Option Nat}{n:String}{g:Nat}{vs:List Value}(h:w.var? P n=some vs.toArray)(k:P.globalNamed n=some g)(b:vs.all jw=true):kM (G0 K w) w (.iptr (vs.map .sc)) g:=by
 refine⟨.iptr (vs:=vs) ?_ ?_,?_⟩
 ·intro i v p;have d:=World.var?_cell k h i;have j:vs.toArray[i]?=some v:=by simpa using p
  rw[j]at d;rw[Nat.zero_add];exact⟨zgt d,d⟩
 ·clear h
  induction vs with
  |nil=>exact .nil
  |cons v vs ih=>
   simp only[List.all_cons,xab]at b;exact .cons (.sc b.1) (ih b.2)
 ·intro x cs e;obtain⟨t,f,l⟩:=zu9 h k;cases o:vs with
  |nil=>rw[o]at e;cases e
  |cons v vs'=>
   rw[o]at e l;simp only[xao,AV.iptr.injEq,xak]at e;refine⟨_,t,f,l,?_⟩;rw[<-e.2];simp
theorem zrt{P:Program}{w:World}{K:Nat->Option Nat}{n:String}{g:Nat}(h:∃u v,w.var? P n=some #[.iface u v])(j:P.globalNamed n=some g):kM (G0 K w) w (.iptr [.opq]) g:=by
 obtain⟨u,v,h⟩:=h;refine⟨.iptr (vs:=[.iface u v]) ?_ (.cons .opq .nil),?_⟩
 ·intro i x k;have b:=World.var?_cell j h i;have d:(#[Value.iface u v]:Array Value)[i]?=some x:=by simpa using k
  rw[d]at b;rw[Nat.zero_add];exact⟨zgt b,b⟩
 ·intro x cs e;obtain⟨t,f,l⟩:=zu9 h j;cases e;exact⟨_,t,f,l,rfl⟩
theorem ztr{G:Gh}{w:World}:∀{vs us:List Value},zx G w (vs.map .sc) us->us=vs
 |[],_,h=>by cases h;rfl
 |v::vs,_,h=>by
  cases h with
  |cons h t=>cases h;rw[ztr t]
theorem zKt{P:Program}{G:Gh}{w:World}{n:String}{g:Nat}{vs:List Value}(h:kM G w (.iptr (vs.map .sc)) g)(k:P.globalNamed n=some g)(o:vs≠[]):w.var? P n=some vs.toArray:=by
 obtain⟨p,q⟩:=h;obtain⟨v,vs',rfl⟩:∃v l,vs=v::l:=by
  cases vs with
  |nil=>exact absurd rfl o
  |cons v l=>exact⟨v,l,rfl⟩
 cases p with
 |iptr ha hr=>
  have e:=ztr hr;subst e;obtain⟨c,t,f,d,j⟩:=q _ _ rfl;simp only[World.var?,k,xae,d];congr 1;apply Array.ext_getElem?;intro i;by_cases r:i<c.size
  ·have b:i<(v::vs').length:=by simp at j ⊢;omega
   have:=(ha i (v::vs')[i] (by simp[b])).2;rw[Nat.zero_add]at this;simp only[World.cell?,d]at this;have this:c[i]?=some (v::vs')[i]:=this;rw[this];simp[b]
  ·rw[Array.getElem?_eq_none (by omega),Array.getElem?_eq_none (by simp at j ⊢;omega)]
open Go.Proofs (encStr)
def zfX(l:List ByteArray):List (List AV):=l.map fun s=>[.sc (.string s)]
def zbF:List (List AV)->Option (List ByteArray)
 |[]=>some []
 |[.sc (.string s)]::l=>(zbF l).map (s::·)
 |_=>none
theorem ztH:∀{rs:List (List AV)} {l:List ByteArray},zbF rs=some l->rs=zfX l
 |[],l,h=>by simp[zbF]at h;subst h;rfl
 |r::rs,l,h=>by
  unfold zbF at h;split at h
  ·rename_i b;cases b
  ·rename_i s d b;cases b;obtain⟨f,e,rfl⟩:=xaf.1 h;rw[ztH e];rfl
  ·cases h
def zJX(l:List ByteArray):List ByteArray:=((l.map fun s=>s.data.toList).mergeSort fun x y=>decide (x<=y)).map fun x=>⟨x.toArray⟩
def zJY:List AV->AS->Option (AV×AS)
 |[.lst _ true []],S=>some (.tup [],S)
 |[.arr id 1 0 n _],S=>
  match S.heap id with
  |some (.rows 1 rs)=>match zbF rs with
   |some l=>if S.ro<=id/\n=rs.length/\0<n/\n<4611686018427387904 then some (.tup [],S.set id (some (.rows 1 (zfX (zJX l)))))else none
   |none=>none
  |_=>none
 |_,_=>none
structure zKL(P:Program)(f:Nat):Prop where
 none:∀(p:Option Addr) (cap:Nat) (w:World),Calls P f #[.slice p 0 cap] w fun e w'=>e=.returned (.tuple #[])/\w'=w
 some:∀(blk off cap:Nat) (ss:List (List UInt8)) (w:World),Sort.Holds encStr w blk off ss.toArray->blk<w.heap.size->ss.length<4611686018427387904->
  Calls P f #[.slice (.some ⟨blk,off,.none⟩) ss.length cap] w fun e w'=>e=.returned (.tuple #[])/\∃n os,w'=Sort.grow (Sort.putRow encStr (Sort.ahead w n) blk off (ss.mergeSort fun x y=>decide (x<=y)).toArray) os
section
variable{A:zA}{D:Nat->Prop}{G:Gh}{ρ:Nat->Option Nat}{σ:ASt}{a:Act}{w:World}{P:Program}{K:Nat->Option Nat}
theorem Fr.more(h:Fr A D G ρ σ a w){w':World}(q:w.heap.size<=w'.heap.size)(f:∀k,k<w.heap.size->w'.heap[k]?=w.heap[k]?)(j:Io w w'):Fr A D G ρ σ a w'/\Ext D G w G w':=by
 have l:Ext D G w G w':={ι:=fun _ _ h=>h,P:=fun _ _ h=>h,K:=rfl,cell:=fun b o v hp t=>by rw[zas (f b (h.sim.lt b o hp))];exact t,stay:=fun b o hp=>f b (h.sim.lt b o hp),size:=q,keep:=fun b i _=>f b i,new:=fun _ _ h=>.inl h,io:=j};have g:Sim G σ.S w':=by
  refine h.sim.keep l.toLe (fun id _ u=>(h.sim.fresh id u).2) ?_ (fun _ _ _ _ _ _ _ _ hp=>hp) fun b o hp=>xan (h.sim.lt b o hp) q;intro id o x e d n;obtain⟨y,s,p⟩:=h.sim.obj id o e;rw[d]at s;cases s;exact f _ (p.lt n)
 refine⟨h.keep l g ?_ h.dwr,l⟩;intro r cs b' e i;exact⟨f _ (h.reg_lt e i),fun _ hp=>hp,fun id o x p d n=>h.rhp r cs b' id o x e i p d n⟩
theorem fr0{S:AS}(hS:Sim G S w)(hg:qW A G w):Fr A (DW G S w) G (fun _=>none) ⟨[],fun _=>none,S⟩ {tmps:=#[],defers:=[]} w where
 defers:=rfl
 size:=rfl
 tmp:=fun p v e=>by simp at e
 reg:=fun r cs e=>by cases e
 rinj:=fun r r' cs cs' b e=>by cases e
 rhp:=fun r cs b id o x e=>by cases e
 sim:=hS
 dwr:=fun b h=>.inr h
 dnew:=fun b h=>.inl h
 glob:=hg
theorem ztt:∀{l:List ByteArray} {vs:List (List Value)},zK G w 1 (zfX l) vs->vs=l.map fun s=>[.string s]
 |[],_,.nil=>rfl
 |s::l,_,.cons h _ _ t=>by
  cases h with
  |cons h1 h2=>
   cases h2;cases h1 with
   |sc _=>rw[ztt t];rfl
theorem zAB{l:List ByteArray}:(l.map fun s=>[Value.string s]).flatten=l.map Value.string:=by
 induction l with
 |nil=>rfl
 |cons s l ih=>simp[ih]
def A1(glob:Nat->Option AV):zA:=zjs [] [(190,zJY)] (fun _=>.keep) glob
end
end Abs
namespace Abs
open Go Go.RowKit
section
variable{A:zA}{G:Gh}{w w':World}{P:Program}{K:Nat->Option Nat}{S:AS}
theorem zcX(hS:Sim G S w)(e:qW A G w)(d:Below w.heap.size w w'){r:AV}{v:Value}(f:Rep G w' r v):kq G S w r S (.returned v) w':=by
 obtain⟨F,X⟩:=(fr0 hS e).more d.size d.block ⟨d.os,d.tape,d.output⟩;exact⟨v,G,rfl,f,F.sim,X,fun b h=>.inr h⟩
def zE(n:Int):ByteArray:=⟨(Lib.itoa n).toArray⟩
def zaa:List AV->AS->Option (AV×AS)
 |[.sc (.int .i64 n)],S=>if -9223372036854775808<=n/\n<=9223372036854775807 then some (.sc (.string (zE n)),S)else none
 |_,_=>none
def zmr:List Value:=Lib.pow10Tab.map fun z=>Value.int .u64 z
structure zvi(P:Program)(f:Nat):Prop where
 call:∀(n:Int),-9223372036854775808<=n->n<=9223372036854775807->∀(w:World),Lib.TabIs P w "internal/strconv.uint64pow10" .u64 Lib.pow10Tab->
  Calls P f #[.int .i64 n] w fun e w'=>e=.returned (.string ⟨(Lib.itoa n).toArray⟩)/\∃k os,w'=Sort.grow (w.drewN k) os
theorem zy1(w:World)(k:Nat)(os:Array Obj):Below w.heap.size w (Sort.grow (w.drewN k) os):=
 ⟨rfl,rfl,rfl,by simp[Sort.grow,World.drewN],fun i b=>Sort.heap_grow_old _ os (by simpa[World.drewN]using b)⟩
theorem zBl{f g:Nat}(j:zvi P f)(l:A.glob 3=some (.iptr (zmr.map .sc)))(o:K 10003=some g)(p:P.globalNamed "internal/strconv.uint64pow10"=some g):wo P A K f zaa:=by
 intro args S r S' G w h q b hS s d;unfold zaa at b;split at b
 ·rename_i n;split at b
  ·rename_i i;cases b;refine⟨?_,Low.refl _⟩;cases s with
   |cons h1 h2=>
    cases h2;cases h1;have t:=zKt (d 3 _ l g (by rw[q];exact o)) p (by decide+kernel);refine(j.call n i.1 i.2 w t).mono ?_;rintro e w' ⟨rfl,k,os,rfl⟩;exact zcX hS d (zy1 w k os) (.sc rfl)
  ·cases b
 ·cases b
def zbe:List AV->AS->Option (AV×AS)
 |[.sc (.string s)],S=>if s.size<=281474976710656 then some (match Lib.atoiAll s.data.toList with
  | .ok v=>.tup [.sc (.int .i64 v),.sc .nilIface]
  | .range=>.tup [.sc (.int .i64 (Lib.atoiSat s.data.toList)),.opq]
  |_=>.tup [.sc (.int .i64 0),.opq],S)else none
 |_,_=>none
structure znD(P:Program)(f:Nat):Prop where
 ok:∀(s:ByteArray),s.size<=9223372036854775806->∀v,Lib.atoiAll s.data.toList=.ok v->∀(w:World),Calls P f #[.string s] w fun e w'=>e=.returned (.tuple #[.int .i64 v,.nilIface])/\Below w.heap.size w w'
 syn:∀(s:ByteArray),s.size<=281474976710656->Lib.atoiAll s.data.toList=Lib.atoiAll []->∀(tp:TypeId) (p:Value) (w:World),w.var? P "strconv.ErrSyntax"=some #[.iface tp p]->
  Calls P f #[.string s] w fun e w'=>∃t v,e=.returned (.tuple #[.int .i64 0,.iface t v])/\Below w.heap.size w w'
 rng:∀(s:ByteArray),s.size<=281474976710656->Lib.atoiAll s.data.toList=.range->∀(tp:TypeId) (p:Value) (w:World),w.var? P "strconv.ErrRange"=some #[.iface tp p]->
  Calls P f #[.string s] w fun e w'=>∃t v,e=.returned (.tuple #[.int .i64 (Lib.atoiSat s.data.toList),.iface t v])/\Below w.heap.size w w'
theorem zy0{w w':World}{e:TypeId}(h:w'=w\/∃t,w'=Lib.bytesWorld w e t):Below w.heap.size w w':=by
 rcases h with rfl|⟨t,rfl⟩
 ·exact Below.refl _ _
 ·exact Lib.bytesWorld_below _ _ _
theorem zva{n:String}{g:Nat}(h:kM G w (.iptr [.opq]) g)(e:P.globalNamed n=some g):∃t v,w.var? P n=some #[.iface t v]:=by
 obtain⟨j,k⟩:=h;cases j with
 |iptr ha hr=>
  cases hr with
  |cons h t=>
   cases t;cases h;rename_i l o;obtain⟨c,t,f,b,d⟩:=k _ _ rfl;refine⟨l,o,?_⟩;simp only[World.var?,e,xae,b];congr 1;apply Array.ext_getElem?;intro i;by_cases q:i<c.size
   ·have p:i=0:=by simp at d;omega
    subst p;have:=(ha 0 _ rfl).2;rw[Nat.zero_add]at this;simp only[World.cell?,b]at this;have this:c[0]?=_:=this;rw[this];rfl
   ·rw[Array.getElem?_eq_none (by omega),Array.getElem?_eq_none (by simp at d ⊢;omega)]
theorem zyU{f i j:Nat}(k:znD P f)(l:A.glob 1=some (.iptr [.opq]))(n:K 10001=some i)(o:P.globalNamed "strconv.ErrRange"=some i)
 (p:A.glob 2=some (.iptr [.opq])) (q:K 10002=some j) (u:P.globalNamed "strconv.ErrSyntax"=some j):wo P A K f zbe:=by
 intro args S r S' G w x z b hS C d;unfold zbe at b;split at b
 ·rename_i s;split at b
  ·rename_i B;refine⟨?_,?_⟩
   ·cases C with
    |cons h1 h2=>
     cases h2;cases h1;cases g:Lib.atoiAll s.data.toList with
     |ok v=>
      rw[g]at b;cases b;refine(k.ok s (by omega) v g w).mono ?_;rintro e w' ⟨rfl,h⟩;exact zcX hS d h (.tup (.cons (.sc rfl) (.cons (.sc rfl) .nil)))
     |range=>
      rw[g]at b;cases b;obtain⟨t,v,y⟩:=zva (d 1 _ l i (by rw[z];exact n)) o;refine(k.rng s B g t v w y).mono ?_;rintro e w' ⟨E,F,rfl,h⟩;exact zcX hS d h (.tup (.cons (.sc rfl) (.cons .opq .nil)))
     |_=>
      rw[g]at b;cases b;obtain⟨t,v,y⟩:=zva (d 2 _ p j (by rw[z];exact q)) u;refine(k.syn s B g t v w y).mono ?_;rintro e w' ⟨E,F,rfl,h⟩;exact zcX hS d h (.tup (.cons (.sc rfl) (.cons .opq .nil)))
   ·cases g:Lib.atoiAll s.data.toList<;>(rw[g]at b;cases b;exact Low.refl _)
  ·cases b
 ·cases b
def zaP(xs:List ByteArray)(sep:ByteArray):ByteArray:=⟨(Lib.join (xs.map (·.data.toList)) sep.data.toList).toArray⟩
def zby:List AV->AS->Option (AV×AS)
 |[l,.sc (.string sep)],S=>(zD 1 S l).bind fun rs=>(zbF rs).bind fun xs=>
  if xs.length<=140737488355328/\(Lib.join (xs.map (·.data.toList)) sep.data.toList).length<=140737488355328 then some (.sc (.string (zaP xs sep)),S)else none
 |_,_=>none
structure zvj(P:Program)(f:Nat):Prop where
 none:∀(a:Option Addr) (c:Nat) (sep:ByteArray) (w:World),Calls P f #[.slice a 0 c,.string sep] w fun e w'=>e=.returned (.string ⟨#[]⟩)/\w'=w
 some:∀(bk o c:Nat) (xs:List ByteArray) (sep:ByteArray) (w:World),(∀(j:Nat) x,xs[j]?=some x->w.cell? ⟨bk,o+j,.none⟩=some (.string x))->bk<w.heap.size->xs.length<=140737488355328->xs.length<=c->
  (Lib.join (xs.map (·.data.toList)) sep.data.toList).length<=140737488355328->
  Calls P f #[.slice (.some ⟨bk,o,.none⟩) xs.length c,.string sep] w fun e w'=>e=.returned (.string ⟨(Lib.join (xs.map (·.data.toList)) sep.data.toList).toArray⟩)/\Below w.heap.size w w'
theorem zHU{sz:Nat}{v:AV}{ad:Option Addr}{n c:Nat}(d:Rep G w v (.slice ad n c)){ys:List (List AV)}(b:zD sz S v=some ys):n<=c:=by
 unfold zD at b;split at b
 ·cases d with
  |nil=>exact Nat.zero_le _
  |lst hn hc _ _ _=>omega
 ·cases d with
  |arr h hl hN hcap ha=>omega
 ·cases b
theorem zBp{f:Nat}(q:zvj P f):wo P A K f zby:=by
 intro args S r S' G w o F h hS u k;unfold zby at h;split at h
 ·rename_i l sep;obtain⟨rs,s,h⟩:=xaa.1 h;obtain⟨xs,v,h⟩:=xaa.1 h;split at h
  ·rename_i t;cases h;refine⟨?_,Low.refl _⟩;obtain rfl:=ztH v;cases u with
   |cons q1 q2=>
    cases q2 with
    |cons q2 q3=>
     cases q3;cases q2;rename_i x _;obtain⟨ad,c,us,z,B,p⟩:=zmF (σ:=⟨[],fun _=>none,S⟩) hS q1 s;subst z;obtain rfl:=ztt B;have i:=zHU q1 s;have n:(zfX xs).length=xs.length:=by simp[zfX]
     rw[n]at i ⊢;cases xs with
     |nil=>
      refine(q.none ad c sep w).mono ?_;rintro e w' ⟨rfl,rfl⟩;exact zcX hS k (Below.refl _ _) (.sc rfl)
     |cons y ys=>
      rcases p with p|⟨b,off,rfl,g⟩
      ·cases p
      ·rw[zAB]at g;have d:∀(j:Nat) x,(y::ys)[j]?=some x->w.cell? ⟨b,off+j,none⟩=some (.string x):=fun j x C=>g j _ (by rw[xat,C];rfl);refine(q.some b off c (y::ys) sep w d (zgt (d 0 y rfl)) t.1 i t.2).mono ?_;rintro e w' ⟨rfl,E⟩;exact zcX hS k E (.sc rfl)
  ·cases h
 ·cases h
end
theorem zBj{args:List AV}{S:AS}{r:AV}{S':AS}(h:zaa args S=some (r,S')):Low S S':=by
 unfold zaa at h;split at h
 ·split at h
  ·cases h;exact Low.refl _
  ·cases h
 ·cases h
theorem zBi{cols:List Nat}{args:List AV}{S:AS}{r:AV}{S':AS}(h:zaa args S=some (r,S')):Frm cols S S':=by
 unfold zaa at h;split at h
 ·split at h
  ·cases h;exact Frm.refl
  ·cases h
 ·cases h
theorem zyT{args:List AV}{S:AS}{r:AV}{S':AS}(h:zbe args S=some (r,S')):Low S S':=by
 unfold zbe at h;split at h
 ·split at h
  ·cases h;exact Low.refl _
  ·cases h
 ·cases h
theorem zBm{args:List AV}{S:AS}{r:AV}{S':AS}(h:zby args S=some (r,S')):Low S S':=by
 unfold zby at h;split at h
 ·obtain⟨rs,b,h⟩:=xaa.1 h;obtain⟨xs,d,h⟩:=xaa.1 h;split at h
  ·cases h;exact Low.refl _
  ·cases h
 ·cases h
def zbi(sz bytes:Nat)(zero:List AV):za:=⟨8,
 .seq (.ops [
  ⟨some 2,.pur .mov,[.k (.lst 0 true [])],none⟩])<|
 .seq (.seq (.ops [
  ⟨some 3,.pur .mov,[.t 0],none⟩,
  ⟨some 4,.nilSl,[.t 3],none⟩])<|
 .cond (.t 4) (.seq (.ops [
  ⟨some 2,.pur .mov,[.k (.lst 0 true [])],none⟩])<|
  .ret) (.skip))<|
 .seq (.ops [
  ⟨some 5,.pur (.buildSl sz 0 zero []),[],none⟩,
  ⟨some 6,.pur .mov,[.t 0],none⟩,
  ⟨some 7,.append sz bytes,[.t 5,.t 6],none⟩,
  ⟨some 2,.pur .mov,[.t 7],none⟩])<|
 .ret,[.tmp 2]⟩
def jN(sz bytes:Nat):List AV->AS->Option (AV×AS)
 |[x],S=>(zD sz S x).bind fun ys=>
  if ys.length*bytes<=140737488355328 then some (.arr S.n sz 0 ys.length none,S.new (.rows sz ys))else none
 |_,_=>none
theorem zku{sz bytes:Nat}{args:List AV}{S S':AS}{r:AV}(h:jN sz bytes args S=some (r,S')):∃x ys,args=[x]/\zD sz S x=some ys/\
 ys.length*bytes<=140737488355328/\r=.arr S.n sz 0 ys.length none/\S'=S.new (.rows sz ys):=by
 unfold jN at h;split at h
 ·rename_i x;obtain⟨ys,b,h⟩:=xaa.1 h;split at h
  ·rename_i d;cases h;exact⟨x,ys,rfl,b,d,rfl,rfl⟩
  ·cases h
 ·cases h
theorem zeB{sz bytes:Nat}{args:List AV}{S:AS}{r:AV}{S':AS}(h:jN sz bytes args S=some (r,S'))(d:S.ro<=S.n):Low S S':=by
 obtain⟨_,_,_,_,_,_,rfl⟩:=zku h;exact⟨rfl,Nat.le_succ _,fun id b=>if_neg (by omega)⟩
theorem zzK{sz bytes:Nat}{cols:List Nat}{args:List AV}{S:AS}{r:AV}{S':AS}(h:jN sz bytes args S=some (r,S')):Frm cols S S':=by
 obtain⟨_,_,_,_,_,_,rfl⟩:=zku h;intro id o d b;have e:∀q:yX,(S.new q).heap id=S.heap id:=fun q=>if_neg (by omega);cases o with
 |map es=>exact(e _).trans b
 |rows z rs=>exact⟨rs,(e _).trans b,fun r cs f=>⟨cs,f,rfl,fun _ _=>rfl⟩⟩
section
variable{A:zA}{P:Program}{K:Nat->Option Nat}{G:Gh}{w:World}
theorem zF1{o:Op}{x:Nat}(h:yw P K o .nilSl [.t x]=true):∃t b e,o=.binOp .eql t (.tmp x) (.const (.slice none 0 0)) b/\P.underlying t=some (.slice e):=by
 simp only[yw]at h;split at h
 ·rename_i t y b;simp only[xab]at h;obtain⟨d,f⟩:=h;cases y<;>simp[zO,kf]at f;subst f;unfold za5 at d;split at d
  ·rename_i e g;exact⟨t,b,e,rfl,g⟩
  ·cases d
 ·cases h
theorem zFU{G G':Gh}{x:Nat×Nat×Nat}{o:yX}(h:Le G w G' w)(j:vl G w x o):vl G' w x o:=by
 cases o with
 |rows sz rs=>
  obtain⟨b,k,l,n⟩:=j;refine⟨b,k,l,n.imp id ?_⟩;rintro⟨c,e,vs,d,f,g,i⟩;exact⟨c,e,vs,d,f,g.mono h,i⟩
 |map es=>
  obtain⟨b,ms,p,d,f,g,i⟩:=j;exact⟨b,ms,p,d,f,g.mono h,i⟩
def Gh.void(G:Gh)(id sz:Nat):Gh:={G with ι:=fun j=>if j=id then some (0,sz,0)else G.ι j}
theorem zJV{S:AS}{sz:Nat}(h:Sim G S w)(hz:0<sz):Sim (G.void S.n sz) (S.new (.rows sz [])) w/\Le G w (G.void S.n sz) w:=by
 have hι:∀id x,G.ι id=some x->(G.void S.n sz).ι id=some x:=fun id x e=>by
  have b:id≠S.n:=by rintro rfl;rw[(h.fresh _ (xad _)).2]at e;cases e
  show(if id=S.n then _ else G.ι id)=_;rw[if_neg b];exact e
 have i:Le G w (G.void S.n sz) w:=⟨hι,fun _ _ h=>h,rfl,fun _ _ _ _ h=>h⟩;have f:∀id o,(S.new (.rows sz [])).heap id=some o->(id=S.n/\o=.rows sz [])\/(id≠S.n/\S.heap id=some o):=fun id o e=>by
  simp only[AS.new]at e;split at e
  ·rename_i b;cases e;exact .inl ⟨b,rfl⟩
  ·rename_i b;exact .inr ⟨b,e⟩
 have d:∀id o x,(S.new (.rows sz [])).heap id=some o->(G.void S.n sz).ι id=some x->0<x.2.2->S.heap id=some o/\G.ι id=some x:=fun id o x e hx g=>by
  rcases f id o e with⟨rfl,rfl⟩|⟨b,e⟩
  ·have hx:(if S.n=S.n then some (0,sz,0)else _)=some x:=hx;rw[if_pos rfl]at hx;cases hx;simp at g
  ·have hx:(if id=S.n then some (0,sz,0)else G.ι id)=some x:=hx;rw[if_neg b]at hx;exact⟨e,hx⟩
 refine⟨?_,i⟩;exact {
  obj:=fun id o e=>by
   rcases f id o e with⟨rfl,rfl⟩|⟨_,e⟩
   ·exact⟨(0,sz,0),if_pos rfl,rfl,hz,xad _,.inl rfl⟩
   ·obtain⟨x,hx,q⟩:=h.obj id o e;exact⟨x,hι _ _ hx,zFU i q⟩
  fresh:=fun id e=>by
   have e:S.n+1<=id:=e;have b:id≠S.n:=by omega
   refine⟨?_,?_⟩
   ·show(if id=S.n then _ else S.heap id)=_;rw[if_neg b];exact(h.fresh id (by omega)).1
   ·show(if id=S.n then _ else G.ι id)=_;rw[if_neg b];exact(h.fresh id (by omega)).2
  inj:=fun id r o o' x y e s hx k g j=>by
   obtain⟨l,p⟩:=d _ _ _ e hx g;obtain⟨t,u⟩:=d _ _ _ s k j;exact h.inj _ _ _ _ _ _ l t p u g j
  own:=fun id o x off v e hx g=>by
   obtain⟨l,p⟩:=d _ _ _ e hx g;exact h.own id o x off v l p g
  lt:=h.lt
  ro:=Nat.le_succ_of_le h.ro}
theorem zHX{sz:Nat}{S:AS}{x:AV}{ys:List (List AV)}{v:Value}(h:zD sz S x=some ys)(i:Rep G w x v):∃a n c,v=.slice a n c/\(a=none->ys=[]):=by
 unfold zD at h;split at h
 ·rename_i z f xs;obtain⟨a,c,e,_,_,d⟩:=i.lst_inv;refine⟨a,_,c,e,fun g=>?_⟩;split at h
  ·cases h;rcases d with d|⟨_,_,_,d,_⟩
   ·exact d
   ·rw[g]at d;cases d
  ·cases h
 ·rename_i id z off n lim;obtain⟨b,N,a,_,k,_,d,e⟩:=i.arr_inv;refine⟨a,_,_,e,fun g=>?_⟩;have j:n=0:=by
   rcases d with d|d
   ·omega
   ·rw[g]at d;cases d
  subst j;split at h
  ·unfold AS.slice at h;split at h
   ·split at h
    ·split at h
     ·cases h;simp
     ·cases h
    ·cases h
   ·cases h
  ·cases h
 ·cases h
theorem zIk{ev:Operand->Value}{o:Oper}{t b e:TypeId}{x:Operand}{a:Option Addr}{n c:Nat}(d:o.op=.binOp .eql t x (.const (.slice none 0 0)) b)(f:P.underlying t=some (.slice e))(g:ev x=.slice a n c)(h:ev (.const (.slice none 0 0))=.slice none 0 0):
 (execOp ev o).run P w=.ok (.value (.bool a.isNone)) w:=by
 rw[zgF _ _ d,g,h];have i:(eqGuard .eql t x (.const (.slice none 0 0)) (.slice a n c) (.slice none 0 0)).run P w=.ok () w:=by
  unfold eqGuard;rfl
 simp only[xag,i,xac,Go.run_eql_slice_nil w t e a n c f,xah]
theorem zzL(hA:Ok P A K){f:Nat}{fn:Func}(hf:P.funcs[f]?=some fn){sz bytes:Nat}{zero:List AV}(hz:zero.all AV.isCell=true)(ah:0<sz)(T:vg P K A.mode (ye A) fn (zbi sz bytes zero)=true)(J:(match fn.body with|some c=>kE c|none=>false)=true):wo P A K f (jN sz bytes):=by
 intro args S r S' G w ai hK hg hS hr aj;refine⟨?_,zeB hg hS.ro⟩;obtain⟨x,ys,rfl,g,ak,rfl,rfl⟩:=zku hg;simp only[vg,xab,beq_iff_eq]at T;obtain⟨⟨hn,I⟩,E⟩:=T;obtain⟨code,u⟩:∃c,fn.body=some c:=by
  cases h:fn.body with
  |none=>rw[h]at E;cases E
  |some c=>exact⟨c,rfl⟩
 rw[u]at J E;have U:=zne (ρ:=fun _=>none) (A:=A) hS aj hr (fn:=fn) (af:=zbi sz bytes zero) hn;refine calls_of_wp hf u ?_;change zZ P K A.mode (ye A) code (zbi sz bytes zero).body=true at E;unfold zbi at E;simp only at E;obtain⟨c1,c2,rfl,al,E⟩:=k6 E;obtain⟨c3,c4,rfl,am,an⟩:=k6 E;obtain⟨c5,c6,rfl,ao,V⟩:=k6 am;obtain⟨bh,bi,bj,rfl,ap,_⟩:=zdz ao;simp[kE]at J;obtain⟨_,⟨rfl,_⟩,_⟩:=J;obtain⟨aq,W⟩:=zdS ap;have ar:(zbi sz bytes zero).start [x] S=st 8 (ini [x]) (fun _=>none) S:=znf (show 1<=8 by omega);rw[ar]at U;have X:=zmK hA;have Y:run A (.ops [⟨some 2,.pur .mov,[.k (.lst 0 true [])],none⟩]) (st 8 (ini [x]) (fun _=>none) S)=some (.normal,st 8 (put (ini [x]) 2 (.lst 0 true [])) (fun _=>none) S):=by
  show zH A _ _ []=_;simp
 refine wp_seq (wp_mono (X _ _ _ _ _ _ _ _ _ _ hK al Y U).1 ?_);rintro x1 a1 w1 ⟨rfl,G1,ρ1,as,L⟩;show Code.wp P _ _ a1 w1;have Z:G1.K=K:=L.K.trans hK;have au:x.isReg=false:=by
  cases x<;>first|rfl|(simp[zD]at g)
 refine wp_seq (wp_seq (wp_region ?_));rw[aq,show List.range [(⟨some 3,.pur .mov,[.t 0],none⟩:zu),⟨some 4,.nilSl,[.t 3],none⟩].length=List.range' 0 1++[1]from rfl];have aa:yK A (run A) [⟨some 3,.pur .mov,[.t 0],none⟩] (st 8 (put (ini [x]) 2 (.lst 0 true [])) (fun _=>none) S)=some (st 8 (put (put (ini [x]) 2 (.lst 0 true [])) 3 x) (fun _=>none) S):=by
  have:yQ A [⟨some 3,.pur .mov,[.t 0],none⟩] (st 8 (put (ini [x]) 2 (.lst 0 true [])) (fun _=>none) S) []=some (.normal,st 8 (put (put (ini [x]) 2 (.lst 0 true [])) 3 x) (fun _=>none) S):=by
   simp[zn]
  unfold yQ at this;rw[znw,xaf]at this;obtain⟨σ',h1,h2⟩:=this;cases h2;exact h1
 refine zfW hA X 1 0 _ _ _ _ _ _ _ Z as ?_ rfl aa ?_
 ·intro j hj;obtain⟨o,i,h1,h2,h3⟩:=W j (by simp;omega);refine⟨o,i,by rw[Nat.zero_add];exact h1,?_,h3⟩
  match j,hj with
  |0,_=>simpa using h2
 intro G3 ρ3 a3 w3 hF3 hx3;have M:G3.K=K:=hx3.K.trans Z;obtain⟨o4,i4,av,ab,aw⟩:=W 1 (by simp);simp at ab;subst ab;obtain⟨ac,O,ax⟩:=zfG aw;obtain⟨t,t',e,O,ay⟩:=zF1 O;have ae:Rep G3 w3 x (a3.eval (.tmp 3)):=by
  have:=hF3.tmp 3 x (by show(je 8 _)[3]?=_;simp[je,zn]);cases x with
  |reg r c=>cases au
  |_=>exact this
 obtain⟨ad,n,c,az,ag⟩:=zHX g ae;refine zdy av ax (zIk O ay az rfl) ?_;have p:=hF3.put o4.dst (v:=.b ad.isNone) (x:=.bool ad.isNone) (Rep.trep (.sc rfl));rw[ac]at p ⊢;have p:Fr A (DW G S w) G3 ρ3 (st 8 (put (put (put (ini [x]) 2 (.lst 0 true [])) 3 x) 4 (.b ad.isNone)) (fun _=>none) S) _ _:=zbK (d:=some 4)▸p;show Code.wp P c6 _ _ _;have bk:=hS.ro;cases Q:ad.isNone with
 |true=>
  rw[Q]at p;have ba:=ag (by simpa using Q);subst ba;have z:run A (.cond (.t 4) (.seq (.ops [⟨some 2,.pur .mov,[.k (.lst 0 true [])],none⟩])<|.ret) (.skip)) (st 8 (put (put (put (ini [x]) 2 (.lst 0 true [])) 3 x) 4 (.b true)) (fun _=>none) S)=some (.ret,st 8 (put (put (put (put (ini [x]) 2 (.lst 0 true [])) 3 x) 4 (.b true)) 2 (.lst 0 true [])) (fun _=>none) S):=by
   show zH A _ _ []=_;simp[zn]
  refine wp_mono (X _ _ _ _ _ _ _ _ _ _ M V z p).1 ?_;rintro x6 a6 w6 ⟨rfl,G6,ρ6,s,F⟩;obtain⟨_,v,hv,q⟩:=zgA (af:=zbi sz bytes zero) s I (r:=.lst 0 true []) (S':=S) (by
   rw[zkD];show wV (yD [.tmp 2] _ _ _ _) _=_;simp[yD,yN,zn])
  obtain⟨s1,s2⟩:=zJV s.sim ah;have R:Rep (G6.void S.n sz) w6 (.arr S.n sz 0 0 none) v:=by
   obtain⟨a,c,e,_,hc,_⟩:=q.lst_inv;have hc:=hc rfl;subst hc;subst e;exact .arr (b:=0) (N:=0) (if_pos rfl) (by simp) (by simp) (by simp) (.inl rfl)
  refine⟨s.defers,v,hv,v,_,rfl,R,s1,((L.trans hx3).trans F).trans ?_,fun b h=>?_⟩
  ·exact {s2 with size:=xad _,keep:=fun _ _ _=>rfl,new:=fun _ _ h=>.inl h,stay:=fun _ _ _=>rfl,io:=Io.refl _}
  ·obtain⟨id,o,x',bc,e,l,h0,rfl⟩:=h;rcases(show(id=S.n/\o=yX.rows sz [])\/(id≠S.n/\S.heap id=some o)from by
    simp only[AS.new]at e;split at e
    ·rename_i B;cases e;exact .inl ⟨B,rfl⟩
    ·rename_i B;exact .inr ⟨B,e⟩)with⟨rfl,rfl⟩|⟨B,e⟩
   ·have l:(if S.n=S.n then some (0,sz,0)else _)=some x':=l;rw[if_pos rfl]at l;cases l;simp at h0
   ·have l:(if id=S.n then some (0,sz,0)else G6.ι id)=some x':=l;rw[if_neg B]at l;exact s.dwr _ ⟨id,o,x',bc,e,l,h0,rfl⟩
 |false=>
  rw[Q]at p;have z:run A (.cond (.t 4) (.seq (.ops [⟨some 2,.pur .mov,[.k (.lst 0 true [])],none⟩])<|.ret) (.skip)) (st 8 (put (put (put (ini [x]) 2 (.lst 0 true [])) 3 x) 4 (.b false)) (fun _=>none) S)=some (.normal,st 8 (put (put (put (ini [x]) 2 (.lst 0 true [])) 3 x) 4 (.b false)) (fun _=>none) S):=by
   show zH A _ _ []=_;simp[zn]
  refine wp_mono (X _ _ _ _ _ _ _ _ _ _ M V z p).1 ?_;rintro x6 a6 w6 ⟨rfl,G6,ρ6,s,F⟩;show Code.wp P c4 _ a6 w6;have be:G6.K=K:=F.K.trans M;have bm:=hz;have C:∃e7,e7 2=.arr S.n sz 0 ys.length none/\run A (.seq (.ops [
   ⟨some 5,.pur (.buildSl sz 0 zero []),[],none⟩,
   ⟨some 6,.pur .mov,[.t 0],none⟩,
   ⟨some 7,.append sz bytes,[.t 5,.t 6],none⟩,
   ⟨some 2,.pur .mov,[.t 7],none⟩])<|.ret) (st 8 (put (put (put (ini [x]) 2 (.lst 0 true [])) 3 x) 4 (.b false)) (fun _=>none) S)=some (.ret,st 8 e7 (fun _=>none) (S.new (.rows sz ys))):=by
   refine⟨put (put (put (put (put (put (put (ini [x]) 2 (.lst 0 true [])) 3 x) 4 (.b false)) 5 (.lst sz true [])) 6 x) 7 (.arr S.n sz 0 ys.length none)) 2 (.arr S.n sz 0 ys.length none),by simp[zn],?_⟩;have ha:∀d rg,ze (.append sz bytes) d rg S [.lst sz true [],x]=some (.arr S.n sz 0 ys.length none,none,S.new (.rows sz ys)):=by
    intro d rg;cases ys with
    |nil=>simp[ze,g,jq]
    |cons y ys=>simpa[ze,g,jq]using ak
   show zH A _ _ []=_;simp[zn,hz,zj,ha]
  obtain⟨e7,bf,C⟩:=C;refine wp_mono (X _ _ _ _ _ _ _ _ _ _ be an C s).1 ?_;rintro x8 a8 w8 ⟨rfl,G8,ρ8,H,bg⟩;obtain⟨_,v,hv,q⟩:=zgA (af:=zbi sz bytes zero) H I (r:=.arr S.n sz 0 ys.length none) (S':=S.new (.rows sz ys)) (by
   rw[zkD];show wV (yD [.tmp 2] _ _ _ _) _=_;simp[yD,yN,bf])
  exact⟨H.defers,v,hv,v,G8,rfl,q,H.sim,(((L.trans hx3).trans F).trans bg),H.dwr⟩
theorem zgv{A:zA}{f:Nat}{fn:Func}(i:P.funcs[f]?=some fn){sz bytes:Nat}{zero:List AV}(j:zero.all AV.isCell=true)(d:0<sz)(e:vg P K (fun _=>.keep) (fun _=>false) fn (zbi sz bytes zero)=true)(g:(match fn.body with|some c=>kE c|none=>false)=true):wo P A K f (jN sz bytes):=by
 intro args S r S' G w b k l hS n o;exact zzL (A:=A0 fun _=>none) znB i j d e g args S r S' G w b k l hS n (fun _ _ h=>by cases h)
end
def vM(l:List Int):List (List AV):=l.map fun s=>[.sc (.int .i64 s)]
def zbE:List (List AV)->Option (List Int)
 |[]=>some []
 |[.sc (.int .i64 s)]::l=>(zbE l).map (s::·)
 |_=>none
theorem ztF:∀{rs:List (List AV)} {l:List Int},zbE rs=some l->rs=vM l
 |[],l,h=>by simp[zbE]at h;subst h;rfl
 |r::rs,l,h=>by
  unfold zbE at h;split at h
  ·rename_i b;cases b
  ·rename_i s d b;cases b;obtain⟨f,e,rfl⟩:=xaf.1 h;rw[ztF e];rfl
  ·cases h
theorem ztE:∀{l:List Int},zbE (vM l)=some l
 |[]=>rfl
 |s::l=>by
  show(zbE (vM l)).map _=_;rw[ztE];rfl
def js(l:List Int):List Int:=l.mergeSort fun x y=>decide (x<=y)
theorem zjM{l:List Int}:(js l).length=l.length:=by simp[js]
def zbJ:List AV->AS->Option (AV×AS)
 |[.lst _ true []],S=>some (.tup [],S)
 |[.arr id 1 0 n _],S=>
  match S.heap id with
  |some (.rows 1 rs)=>match zbE rs with
   |some l=>if S.ro<=id/\n=rs.length/\0<n/\n<4611686018427387904 then some (.tup [],S.set id (some (.rows 1 (vM (js l)))))else none
   |none=>none
  |_=>none
 |_,_=>none
structure zvn(P:Program)(f:Nat):Prop where
 none:∀(p:Option Addr) (cap:Nat) (w:World),Calls P f #[.slice p 0 cap] w fun e w'=>e=.returned (.tuple #[])/\w'=w
 some:∀(blk off cap:Nat) (ss:List Int) (w:World),Sort.Holds (Value.int .i64) w blk off ss.toArray->blk<w.heap.size->ss.length<4611686018427387904->
  Calls P f #[.slice (.some ⟨blk,off,.none⟩) ss.length cap] w fun e w'=>e=.returned (.tuple #[])/\∃n os,w'=Sort.grow (Sort.putRow (Value.int .i64) (Sort.ahead w n) blk off (ss.mergeSort fun x y=>decide (x<=y)).toArray) os
section
variable{A:zA}{D:Nat->Prop}{G:Gh}{ρ:Nat->Option Nat}{σ:ASt}{a:Act}{w:World}{P:Program}{K:Nat->Option Nat}
theorem zts:∀{l:List Int} {vs:List (List Value)},zK G w 1 (vM l) vs->vs=l.map fun s=>[.int .i64 s]
 |[],_,.nil=>rfl
 |s::l,_,.cons h _ _ t=>by
  cases h with
  |cons h1 h2=>
   cases h2;cases h1 with
   |sc _=>rw[zts t];rfl
theorem zrK:∀{l:List Int},zK G w 1 (vM l) (l.map fun s=>[.int .i64 s])
 |[]=>.nil
 |s::l=>.cons (.cons (.sc rfl) .nil) rfl (by simp[Value.oneCell']) zrK
theorem zrl{l:List Int}:(l.map fun s=>[(Value.int .i64) s]).flatten=l.map (Value.int .i64):=by
 induction l with
 |nil=>rfl
 |cons s l ih=>simp[ih]
theorem zJ1{f:Nat}(hc:zvn P f):wo P A K f zbJ:=by
 intro args S r S' G w aa hK s hS hr ab;unfold zbJ at s;split at s
 ·rename_i z;cases s;cases hr with
  |cons h1 h2=>
   cases h2;rename_i q;obtain⟨ad,c,e1⟩:∃ad c,q=Value.slice ad 0 c:=by
    cases h1 with
    |nil e=>exact⟨_,_,rfl⟩
    |lst Z _ _ _ _=>subst Z;exact⟨_,_,rfl⟩
   rw[e1];refine⟨(hc.none ad c w).mono ?_,Low.refl _⟩;rintro e w' ⟨rfl,rfl⟩;exact⟨_,G,rfl,.tup .nil,hS,Ext.refl _ _ _,fun b h=>.inr h⟩
 ·rename_i id n lim;split at s
  ·rename_i rs hh;split at s
   ·rename_i l hl;split at s
    ·rename_i E;obtain⟨ac,Z,al,Q⟩:=E;cases s;obtain rfl:=ztF hl;refine⟨?_,⟨rfl,xad _,fun j i=>if_neg (by omega)⟩⟩;cases hr with
     |cons h1 h2=>
      cases h2;obtain⟨b,N,ad,hi,am,hN,ae,e1⟩:=h1.arr_inv;obtain⟨y,hy,ho⟩:=hS.obj id _ hh;rw[hi]at hy;cases hy;obtain⟨_,_,R,F⟩:=ho;have T:(vM l).length=l.length:=by simp[vM]
      rw[T]at Z R;subst Z;have af:0<N:=by omega
      rcases F with h0|⟨c,H,vs,O,I,U,t⟩
      ·simp only at h0;omega
      ·have O:w.heap[b]?=some (.cells c H (0,0)):=O;have I:c.size=N*1:=I;obtain rfl:=zts U;rw[zrl,T,Nat.mul_one]at t;have J:∀j (i:j<l.length),c[j]?=some (.int .i64 l[j]):=by
        intro j i;have h3:(c.toList.take l.length)[j]?=(l.map (Value.int .i64))[j]?:=by rw[t]
        rw[xaq,if_pos i]at h3;simpa[i]using h3
       have B:b<w.heap.size:=j0 O;have V:ad=some ⟨b,0,none⟩:=by
        rcases ae with h|h
        ·omega
        ·simpa using h
       rw[e1,V];have v:Sort.Holds (Value.int .i64) w b 0 l.toArray:=by
        intro j i;have i:j<l.length:=by simpa using i
        constructor
        ·simp only[World.cell?,O,Nat.zero_add,J j i];simp[i]
        ·simp[World.frozen?,O]
       have L:=hc.some b 0 (lim.getD N-0) l w v B (by simpa using Q);refine L.mono ?_;rintro e w' ⟨rfl,n,os,rfl⟩;generalize W:(l.mergeSort fun x y=>decide (x<=y))=u;have X:u.length=l.length:=by rw[<-W];simp
       have M:js l=u:=by unfold js;rw[W]
       have ag:∀k,k≠b->(Sort.putRow (Value.int .i64) (Sort.ahead w n) b 0 u.toArray).heap[k]?=w.heap[k]?:=by
        intro k hk;show(w.heap.modify b _)[k]?=_;rw[Array.getElem?_modify,if_neg (Ne.symm hk)]
       have ah:(Sort.putRow (Value.int .i64) (Sort.ahead w n) b 0 u.toArray).heap[b]?=some (.cells (Sort.putCells (Value.int .i64) 0 u.toArray c) H (0,0)):=by
        show(w.heap.modify b _)[b]?=_;rw[Array.getElem?_modify,if_pos rfl,O];rfl
       have F0:=fr0 (A:=A) hS ab;have g:=F0.free_kill ac hh hi af;have F1:=F0.less (hp:=(S.set id none).heap) (fun j o e=>by
        simp only[AS.set]at e;split at e
        ·cases e
        ·exact e)
       obtain⟨F2,X2⟩:=F1.write (w':=Sort.putRow (Value.int .i64) (Sort.ahead w n) b 0 u.toArray) g (by simp) ag ⟨rfl,rfl,rfl⟩;obtain⟨F3,X3⟩:=F2.more (w':=Sort.grow (Sort.putRow (Value.int .i64) (Sort.ahead w n) b 0 u.toArray) os) (by simp) (fun k hk=>Sort.heap_grow_old _ os hk) ⟨rfl,rfl,rfl⟩;have Y:vl G (Sort.grow (Sort.putRow (Value.int .i64) (Sort.ahead w n) b 0 u.toArray) os) (b,1,N) (.rows 1 (vM (js l))):=by
        refine⟨rfl,by omega,by simp[vM,zjM];omega,.inr ⟨Sort.putCells (Value.int .i64) 0 u.toArray c,H,_,?_,?_,zrK,?_⟩⟩
        ·rw[Sort.heap_grow_old _ os (by simpa using B)];exact ah
        ·simp[Sort.putCells,I]
        ·rw[zrl,M];apply List.ext_getElem?;intro j;rw[xaq];have:(vM u).length*1=l.length:=by simp[vM,X]
         rw[this];by_cases i:j<l.length
         ·rw[if_pos i];have ai:j<c.size:=by omega
          have aj:j<u.length:=by omega
          simp[Sort.putCells,ai,aj]
         ·rw[if_neg i,xap (by simp;omega)]
       have F4:=F3.take (id:=id) (x:=(b,1,N)) hi (by simp[AS.set]) (by
        have:=(hS.fresh id);apply Classical.byContradiction;intro ak;have h5:=(hS.fresh id (by simpa[AS.set]using ak)).1;rw[hh]at h5;cases h5) (fun _=>⟨g.d,g.p,g.obj,g.reg⟩) Y
       have C:((S.set id none).set id (some (.rows 1 (vM (js l)))))=S.set id (some (.rows 1 (vM (js l)))):=zuG _ _ _ _;refine⟨_,G,rfl,.tup .nil,?_,X2.trans X3,?_⟩
       ·have:=F4.sim;rw[<-C];exact this
       ·have:=F4.dwr;rw[<-C];exact this
    ·cases s
   ·cases s
  ·cases s
 ·cases s
theorem zJZ{args:List AV}{S:AS}{r:AV}{S':AS}(h:zbJ args S=some (r,S'))(d:S.ro<=S.n):Low S S':=by
 unfold zbJ at h;split at h
 ·cases h;exact Low.refl _
 ·split at h
  ·split at h
   ·split at h
    ·rename_i e;cases h;exact⟨rfl,xad _,fun id b=>if_neg (by omega)⟩
    ·cases h
   ·cases h
  ·cases h
 ·cases h
end
end Abs
