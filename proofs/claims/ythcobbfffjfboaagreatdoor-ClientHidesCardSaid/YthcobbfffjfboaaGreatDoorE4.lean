/- Ranging over a map: frames beside an iterator. -/
import Derived.Test.YthcobbfffjfboaaGreatDoorE3
import Derived.Maps.RangeRun
import Derived.MakeChecks
import Derived.FnData
import Derived.Sort.Grow
import Derived.Sort.EncStr
import Derived.Lib.Join
import Derived.Lib.LaidTab
import Derived.Lib.AtoiAll
import Derived.Lib.ItoaNum
import Derived.Lib.ConvBytes
import Derived.Lib.AtoiErrMem
import Derived.Lib.QuietBelow
import Derived.Lib.LazyBuf
set_option linter.unusedVariables false
set_option linter.unusedSimpArgs false
set_option linter.unusedSectionVars false
namespace Abs
open Go
section
variable {A:zx} {D:Nat -> Prop} {G:Gh} {ρ:Nat -> Option Nat} {σ:ASt} {a:Act} {w:World} {P:Program} {K:Nat -> Option Nat}
theorem zA6 {ops:Array Oper} {Q:Exit -> Act -> World -> Prop} {k:Nat} {rest:List Nat} {o:Oper} {x:Value} {w':World} (ho:ops[k]?=some o) (hg:o.guard=none) (hrun:(execOp a.eval o).run P w=.ok (.value x) w')
 (h:wpOps P ops Q rest (a.put o.dst x) w'):wpOps P ops Q (k::rest) a w:=by
 rw [wpOps_cons];unfold wpOp;rw [ho];have hw:Region.wanted o (yielded ops a.tmps)=true:=by unfold Region.wanted;rw [hg]
 simp only [hw,if_true];left;unfold Oper.wp;rw [hrun];exact h
end
section
variable {P:Program} {K:Nat -> Option Nat} {m:Nat -> jM} {ext:Nat -> Bool} {c:Code}
theorem zmc {a b:ACode} (h:yR P K m ext c (.seq a b)=true):∃x y,c=.seq x y /\ yR P K m ext x a=true /\ yR P K m ext y b=true:=by
 cases c with
 |seq x y=>simp only [yR,Bool.and_eq_true]at h;exact ⟨x,y,rfl,h.1,h.2⟩
 |_=>simp [yR]at h
theorem zzy {i j:zn} {l:List zn} (h:yR P K m ext c (.ops (i::j::l))=true):∃id os draw,c=.region id os draw /\ wi P K os os.toList (i::j::l)=true /\ (draw=true -> zhL P os ((i::j::l).map (zX m ext))=true):=by
 cases c with
 |region id os draw=>
  simp only [yR,Bool.and_eq_true,Bool.or_eq_true,Bool.not_eq_true']at h
  exact ⟨id,os,draw,rfl,h.1,fun e=>by rcases h.2 with h|h;· rw [e]at h;cases h
                                      ·exact h⟩
 |_=>simp [yR]at h
def zbl:Code -> Bool
 | .region _ _ d=>!d
 | .seq a b=>zbl a && zbl b
 | .cond _ a b=>zbl a && zbl b
 | .block _ c| .loop c| .scope c=>zbl c
 |_=>true
theorem zHY {os:Array Oper} {is:List zn} (h:wi P K os os.toList is=true):os.size=is.length /\ ∀j,j < is.length -> ∃o i,os[j]?=some o /\ is[j]?=some i /\ we P K os o i=true:=by
 obtain ⟨h1,h2⟩:=zeg h;refine ⟨by simpa using h1,fun j hj=>?_⟩
 have hj':j < os.size:=by have:os.size=is.length:=by simpa using h1
                          omega
 obtain ⟨i,h3,h4⟩:=h2 j os[j] (by simp [hj']);exact ⟨os[j],i,by simp [hj'],h3,h4⟩
end
section
variable {A:zx} {D:Nat -> Prop} {G:Gh} {ρ:Nat -> Option Nat} {σ:ASt} {a:Act} {w:World} {P:Program} {K:Nat -> Option Nat}
theorem zDl {os:Array Oper} {o:Oper} {d:Option Nat} {op:AOp} {xs:List zl} (h:we P K os o ⟨d,op,xs,none⟩=true):o.dst=d /\ yH P K o.op op xs=true /\ o.guard=none:=by
 simp only [we,Bool.and_eq_true,beq_iff_eq]at h;refine ⟨h.1.1,h.1.2,?_⟩;have:=h.2;split at this
 ·assumption
 ·rename_i e;cases e
 ·cases this
end
section
variable {P:Program} {K:Nat -> Option Nat}
def A0 (glob:Nat -> Option AV):zx:={funcs:=fun _=>none,mode:=fun _=>.keep,ext:=fun _=>none,glob}
theorem zDD:Ok P (A0 fun _=>none) K where
 fn:=fun _ _ _ _ _ h=>by cases h
 ext:=fun _ _ _ _ h=>by cases h
 low:=fun _ _ h=>by cases h
 frm:=fun _ _ _ h=>by cases h
 gpure:=fun _ _ h=>by cases h
theorem zfE {α:Type} {k:Nat} {v:α}:∀{l:List (Nat×α)},List.lookup k l=some v -> (k,v)∈l
 |[],h=>by cases h
 |(a,b)::l,h=>by
  rw [List.lookup_cons]at h;cases hb:(k==a) with
  |true=>
   rw [hb]at h;have:k=a:=by simpa using hb
   cases h;subst this;exact List.mem_cons_self
  |false=>rw [hb]at h;exact List.mem_cons_of_mem _ (zfE h)
structure zdh (P:Program) (K:Nat -> Option Nat) (m:Nat -> jM) (x:Nat -> Bool) (key:Nat) (af:zd):Prop where
 ok:∀f,K key=some f -> vY P f=true /\ ∃fn,P.funcs[f]?=some fn /\ vF P K m x fn af=true
theorem zdh.mk' {m:Nat -> jM} {x:Nat -> Bool} {key f:Nat} {fn:Func} {af:zd} (hk:K key=some f) (he:vY P f=true) (hf:P.funcs[f]?=some fn) (hok:vF P K m x fn af=true):zdh P K m x key af:=
 ⟨fun f' h=>by rw [hk]at h;cases h;exact ⟨he,fn,hf,hok⟩⟩
structure vP (P:Program) (A:zx) (K:Nat -> Option Nat) (key:Nat) (g:List AV -> AS -> Option (AV×AS)):Prop where
 ok:∀f,K key=some f -> vY P f=true /\ zbf P A K f g
 low:∀args S r S',g args S=some (r,S') -> S.ro <=S.n -> Low S S'
 frm:∀cols,A.mode key=.keepF cols -> ∀args S r S',g args S=some (r,S') -> Frm cols S S'
theorem vP.mk' {A:zx} {key f:Nat} {g:List AV -> AS -> Option (AV×AS)} (hk:K key=some f) (he:vY P f=true) (hc:zbf P A K f g) (hl:∀args S r S',g args S=some (r,S') -> S.ro <=S.n -> Low S S')
 (hfr:∀cols,A.mode key=.keepF cols -> ∀args S r S',g args S=some (r,S') -> Frm cols S S':=by intro cols h;cases h):vP P A K key g:=
 ⟨fun f' h=>by rw [hk]at h;cases h;exact ⟨he,hc⟩,hl,hfr⟩
inductive zb5 (P:Program) (K:Nat -> Option Nat) (m:Nat -> jM) (x:Nat -> Bool):List (Nat×zd) -> Prop
 |nil:zb5 P K m x []
 |cons {k:Nat} {af:zd} {l:List (Nat×zd)} (h:zdh P K m x k af) (t:zb5 P K m x l):zb5 P K m x ((k,af)::l)
theorem zb5.mem {m:Nat -> jM} {x:Nat -> Bool} {k:Nat} {af:zd}:∀{l:List (Nat×zd)},zb5 P K m x l -> (k,af)∈l -> zdh P K m x k af
 |_,.cons h t,hm=>by
  rcases List.mem_cons.1 hm with h1|h1
  ·cases h1;exact h
  ·exact t.mem h1
inductive zbU (P:Program) (A:zx) (K:Nat -> Option Nat):List (Nat×(List AV -> AS -> Option (AV×AS))) -> Prop
 |nil:zbU P A K []
 |cons {k:Nat} {g:List AV -> AS -> Option (AV×AS)} {l:List (Nat×(List AV -> AS -> Option (AV×AS)))} (h:vP P A K k g) (t:zbU P A K l):zbU P A K ((k,g)::l)
theorem zbU.mem {A:zx} {k:Nat} {g:List AV -> AS -> Option (AV×AS)}:∀{l:List (Nat×(List AV -> AS -> Option (AV×AS)))},zbU P A K l -> (k,g)∈l -> vP P A K k g
 |_,.cons h t,hm=>by
  rcases List.mem_cons.1 hm with h1|h1
  ·cases h1;exact h
  ·exact t.mem h1
def zlr (fs:List (Nat×zd)) (xs:List (Nat×(List AV -> AS -> Option (AV×AS)))) (m:Nat -> jM) (glob:Nat -> Option AV):zx:=
 {funcs:=fun k=>List.lookup k fs,mode:=m,ext:=fun k=>List.lookup k xs,glob}
theorem zDg {fs:List (Nat×zd)} {xs:List (Nat×(List AV -> AS -> Option (AV×AS)))} {m:Nat -> jM} {glob:Nat -> Option AV} (hf:zb5 P K m (fun k=>(List.lookup k xs).isSome) fs) (hx:zbU P (zlr fs xs m glob) K xs) (hg:∀g v,glob g=some v -> v.pure=true):Ok P (zlr fs xs m glob) K where
 fn:=fun key f af hk _ h=>(hf.mem (zfE h)).ok f hk
 ext:=fun key f g hk h=>(hx.mem (zfE h)).ok f hk
 low:=fun key g h=>(hx.mem (zfE h)).low
 frm:=fun key g cols h hm=>(hx.mem (zfE h)).frm cols hm
 gpure:=hg
end
mutual
def zhs:DataW Unit -> Option (List Value)
 | .lit (.int k n)=>some [.int k n]
 | .lit (.bool b)=>some [.bool b]
 | .lit (.string l)=>some [.string ⟨l.toArray⟩]
 | .agg ds=>zaw ds
 |_=>none
def zaw:List (DataW Unit) -> Option (List Value)
 |[]=>some []
 |d::l=>(zhs d).bind fun a=>(zaw l).map (a++·)
end
def zlj (P:Program) (L:List TypeId):Bool:=L.all fun t=>
 match P.underlying t with
 |some .bool|some (.int _)|some .string=>P.cellsOf t==1
 |some (.struct fs)=>zak P L fs.toList 0==some (P.cellsOf t)
 |some (.array n e)=>L.contains e && n * P.cellsOf e==P.cellsOf t
 |_=>false
theorem znT {d:DataW Unit} {l:List (DataW Unit)} {vs:List Value} (h:zaw (d::l)=some vs):∃a b,zhs d=some a /\ zaw l=some b /\ vs=a++b:=by
 simp only [zaw,Option.bind_eq_some_iff,Option.map_eq_some_iff]at h;obtain ⟨a,h1,b,h2,h3⟩:=h;exact ⟨a,b,h1,h2,h3.symm⟩
section
variable {P:Program} {w:World} {spare:Nat -> Bool} {held:Bool} {enc:TypeId×Value -> Unit}
theorem zlS {L:List TypeId} (hL:zlj P L=true):∀(fuel:Nat) (t:TypeId) (cs:List Value) (d:DataW Unit) (ps:List MemPlace) (vs:List Value),L.contains t=true -> DataW.trod enc P w 0 spare held fuel t cs=some (d,ps) -> zhs d=some vs -> cs=vs /\ cs.length=P.cellsOf t
 |0,_,_,_,_,_,_,h,_=>by simp [DataW.trod]at h
 |fuel+1,t,cs,d,ps,vs,ht,h,hf=>by
  have hT:=hL;simp only [zlj,List.all_eq_true]at hT;have hT:=hT t (by simpa using ht);unfold DataW.trod at h;split at h
  ·rename_i b hu;simp only [hu,beq_iff_eq]at hT;cases h;cases hf;exact ⟨rfl,hT.symm⟩
  ·rename_i k k' n hu;simp only [hu,beq_iff_eq]at hT;split at h
   ·rename_i hc;obtain ⟨rfl,_⟩:=hc;cases h;cases hf;exact ⟨rfl,hT.symm⟩
   ·cases h
  ·rename_i hu;simp [hu]at hT
  ·rename_i s hu;simp only [hu,beq_iff_eq]at hT;split at h
   ·cases h;cases hf;exact ⟨rfl,hT.symm⟩
   ·cases h
  ·rename_i hu;simp [hu]at hT
  ·rename_i hu;simp [hu]at hT
  ·rename_i hu;simp [hu]at hT
  ·rename_i hu;simp [hu]at hT
  ·rename_i fs hu;rename_i cs _ _;simp only [hu,beq_iff_eq]at hT;split at h
   ·rename_i hcl;simp only [Option.map_eq_some_iff]at h;obtain ⟨xs,hm,e⟩:=h;cases e;have hf:zaw (xs.map (·.1))=some vs:=hf;have go:∀(fl:List Field) (o:Nat) (ys:List (DataW Unit×List MemPlace)) (vs:List Value),zak P L fl o=some (P.cellsOf t) -> (fl.mapM fun f=>DataW.trod enc P w 0 spare held fuel f.type ((cs.drop f.offset).take (P.cellsOf f.type)))=some ys -> zaw (ys.map (·.1))=some vs -> cs.drop o=vs:=by
     intro fl
     induction fl with
     |nil=>
      intro o ys vs hti hys hfl;simp at hys;subst hys;cases hfl;simp only [zak,Option.some.injEq]at hti;rw [List.drop_eq_nil_of_le (by omega)]
     |cons f fl ih=>
      intro o ys vs hti hys hfl;simp only [zak]at hti;split at hti
      ·rename_i hf;obtain ⟨rfl,hf⟩:=hf;rw [List.mapM_cons]at hys;simp only [bind,Option.bind_eq_some_iff]at hys;obtain ⟨y,htr,ys',hys',e⟩:=hys;cases e;obtain ⟨a,b,h1,h2,rfl⟩:=znT hfl;obtain ⟨e1,_⟩:=zlS hL fuel f.type _ _ _ a hf htr h1;have e2:=ih _ ys' b hti hys' h2;rw [<- e1,<- e2,<- List.drop_drop,List.take_append_drop]
      ·cases hti
    have:=go fs.toList 0 xs vs hT hm hf;exact ⟨by simpa using this,hcl⟩
   ·cases h
  ·rename_i n e hu;rename_i cs _ _;simp only [hu,Bool.and_eq_true,beq_iff_eq]at hT;obtain ⟨he,hce⟩:=hT;split at h
   ·rename_i hcl;simp only [Option.map_eq_some_iff]at h;obtain ⟨xs,hm,e⟩:=h;cases e;have hf:zaw (xs.map (·.1))=some vs:=hf;have go:∀(m k:Nat) (ys:List (DataW Unit×List MemPlace)) (vs:List Value),(k+m) * P.cellsOf e=P.cellsOf t -> ((List.range' k m).mapM fun i=>DataW.trod enc P w 0 spare held fuel e ((cs.drop (i * P.cellsOf e)).take (P.cellsOf e)))=some ys -> zaw (ys.map (·.1))=some vs -> cs.drop (k * P.cellsOf e)=vs:=by
     intro m
     induction m with
     |zero=>
      intro k ys vs hk hys hfl;simp at hys;subst hys;cases hfl;rw [List.drop_eq_nil_of_le (by rw [hcl,<- hk];exact Nat.le_refl _)]
     |succ m ih=>
      intro k ys vs hk hys hfl;rw [List.range'_succ,List.mapM_cons]at hys;simp only [bind,Option.bind_eq_some_iff]at hys;obtain ⟨y,htr,ys',hys',e⟩:=hys;cases e;obtain ⟨a,b,h1,h2,rfl⟩:=znT hfl;obtain ⟨e1,_⟩:=zlS hL fuel _ _ _ _ a he htr h1;have e2:=ih (k+1) ys' b (by rw [<- hk];congr 1;omega) hys' h2;rw [<- e1,<- e2,show (k+1) * P.cellsOf e=k * P.cellsOf e+P.cellsOf e by rw [Nat.add_mul,Nat.one_mul],<- List.drop_drop,List.take_append_drop]
    rw [List.range_eq_range']at hm;have:=go n 0 xs vs (by rw [Nat.zero_add];exact hce) hm hf;exact ⟨by simpa using this,hcl⟩
   ·cases h
  all_goals
   rename_i hu
   first
    |(simp [hu]at hT;done)
    |cases h
end
theorem zlX {P:Program} {w:World}:∀{laid:List (String×DataW Unit)} {ps:List MemPlace},DataW.LaidVars P w laid ps -> ∀x∈laid,∃g t cs fuel p,P.globalNamed x.1=some g /\ (P.globals[g]?).map (·.type)=some t /\ w.var? P x.1=some cs /\ DataW.trod (fun _=>()) P w 0 (fun _=>true) false fuel t cs.toList=some (x.2,p)
 |[],_,_,x,hx=>by cases hx
 |(n,d)::r,ps,⟨g,t,cs,fuel,p,q,h1,h2,h3,h4,h5,_⟩,x,hx=>by
  rcases List.mem_cons.1 hx with rfl|hx
  ·exact ⟨g,t,cs,fuel,p,h1,h2,h3,h4⟩
  ·exact zlX h5 x hx
theorem zoa {P:Program} {w:World} {laid:List (String×DataW Unit)} {L:List TypeId} {n:String} {d:DataW Unit} {vs:List Value} {g t:Nat} (h:laidMetH P laid w) (hp:(laid.all fun x=>x.2.handleName?.isNone)=true) (hx:(n,d)∈laid)
 (hg:P.globalNamed n=some g) (ht:(P.globals[g]?).map (·.type)=some t) (hL:zlj P L=true) (hc:L.contains t=true) (hd:zhs d=some vs):w.var? P n=some vs.toArray:=by
 rw [MakeChecks.laidMetH_plain _ _ _ hp]at h;obtain ⟨ps,h1,_⟩:=h;obtain ⟨g',t',cs,fuel,p,q1,q2,q3,q4⟩:=zlX h1 (n,d) hx;rw [hg]at q1;cases q1;rw [ht]at q2;cases q2;obtain ⟨e,_⟩:=zlS hL fuel _ _ _ _ vs hc q4 hd;rw [q3,<- e]
theorem ztv {P:Program} {w:World} {laid:List (String×DataW Unit)} {n nm:String} {d:DataW Unit} {g t:Nat} (h:laidMetH P laid w) (hp:(laid.all fun x=>x.2.handleName?.isNone)=true) (hx:(n,.iface nm d)∈laid)
 (hg:P.globalNamed n=some g) (ht:(P.globals[g]?).map (·.type)=some t) (hi:(match P.underlying t with|some (.interface _)=>true|_=>false)=true):∃u v,w.var? P n=some #[.iface u v]:=by
 rw [MakeChecks.laidMetH_plain _ _ _ hp]at h;obtain ⟨ps,h1,_⟩:=h;obtain ⟨g',t',cs,fuel,p,q1,q2,q3,q4⟩:=zlX h1 _ hx;rw [hg]at q1;cases q1;rw [ht]at q2;cases q2;cases fuel with
 |zero=>simp [DataW.trod]at q4
 |succ fuel=>
  unfold DataW.trod at q4;obtain ⟨l⟩:=cs;simp only at q4;split at q4
  all_goals first
   |(rename_i u v hu;exact ⟨u,v,q3⟩)
   |(rename_i hu;simp [hu]at hi;done)
   |(cases q4;done)
theorem zow {P:Program} {w:World} {n:String} {g:Nat} {c:Array Value} (h:w.var? P n=some c) (hg:P.globalNamed n=some g):∃t f,w.heap[g]?=some (.cells c t f):=by
 simp only [World.var?,hg,Option.bind_some]at h;split at h
 ·rename_i cs t f hh;cases h;exact ⟨t,f,hh⟩
 ·cases h
theorem zqU {P:Program} {w:World} {K:Nat -> Option Nat} {n:String} {g:Nat} {vs:List Value} (h:w.var? P n=some vs.toArray) (hg:P.globalNamed n=some g) (hs:vs.all qB=true):kV (G0 K w) w (.iptr (vs.map .sc)) g:=by
 refine ⟨.iptr (vs:=vs) ?_ ?_,?_⟩
 ·intro i v hv;have hc:=World.var?_cell hg h i;have hv':vs.toArray[i]?=some v:=by simpa using hv
  rw [hv']at hc;rw [Nat.zero_add];exact ⟨zgf hc,hc⟩
 ·clear h
  induction vs with
  |nil=>exact .nil
  |cons v vs ih=>
   simp only [List.all_cons,Bool.and_eq_true]at hs;exact .cons (.sc hs.1) (ih hs.2)
 ·intro x cs e;obtain ⟨t,f,hb⟩:=zow h hg;cases e':vs with
  |nil=>rw [e']at e;cases e
  |cons v vs'=>
   rw [e']at e hb;simp only [List.map_cons,AV.iptr.injEq,List.cons.injEq]at e;refine ⟨_,t,f,hb,?_⟩;rw [<- e.2];simp
theorem zoq {P:Program} {w:World} {K:Nat -> Option Nat} {n:String} {g:Nat} (h:∃u v,w.var? P n=some #[.iface u v]) (hg:P.globalNamed n=some g):kV (G0 K w) w (.iptr [.opq]) g:=by
 obtain ⟨u,v,h⟩:=h;refine ⟨.iptr (vs:=[.iface u v]) ?_ (.cons .opq .nil),?_⟩
 ·intro i x hx;have hc:=World.var?_cell hg h i;have hv':(#[Value.iface u v]:Array Value)[i]?=some x:=by simpa using hx
  rw [hv']at hc;rw [Nat.zero_add];exact ⟨zgf hc,hc⟩
 ·intro x cs e;obtain ⟨t,f,hb⟩:=zow h hg;cases e;exact ⟨_,t,f,hb,rfl⟩
theorem zp9 {G:Gh} {w:World}:∀{vs us:List Value},zp G w (vs.map .sc) us -> us=vs
 |[],_,h=>by cases h;rfl
 |v::vs,_,h=>by
  cases h with
  |cons h t=>cases h;rw [zp9 t]
theorem zwD {P:Program} {G:Gh} {w:World} {n:String} {g:Nat} {vs:List Value} (h:kV G w (.iptr (vs.map .sc)) g) (hg:P.globalNamed n=some g) (hv:vs≠[]):w.var? P n=some vs.toArray:=by
 obtain ⟨h1,h2⟩:=h;obtain ⟨v,vs',rfl⟩:∃v l,vs=v::l:=by
  cases vs with
  |nil=>exact absurd rfl hv
  |cons v l=>exact ⟨v,l,rfl⟩
 cases h1 with
 |iptr ha hr=>
  have e:=zp9 hr;subst e;obtain ⟨c,t,f,hb,hs⟩:=h2 _ _ rfl;simp only [World.var?,hg,Option.bind_some,hb];congr 1;apply Array.ext_getElem?;intro i;by_cases hi:i < c.size
  ·have hi':i < (v::vs').length:=by simp at hs ⊢;omega
   have:=(ha i (v::vs')[i] (by simp [hi'])).2;rw [Nat.zero_add]at this;simp only [World.cell?,hb]at this;have this:c[i]?=some (v::vs')[i]:=this;rw [this];simp [hi']
  ·rw [Array.getElem?_eq_none (by omega),Array.getElem?_eq_none (by simp at hs ⊢;omega)]
open Go.Proofs (encStr)
def zhW (l:List ByteArray):List (List AV):=l.map fun s=>[.sc (.string s)]
def zb4:List (List AV) -> Option (List ByteArray)
 |[]=>some []
 |[.sc (.string s)]::l=>(zb4 l).map (s::·)
 |_=>none
theorem zr3:∀{rs:List (List AV)} {l:List ByteArray},zb4 rs=some l -> rs=zhW l
 |[],l,h=>by simp [zb4]at h;subst h;rfl
 |r::rs,l,h=>by
  unfold zb4 at h;split at h
  ·rename_i h1;cases h1
  ·rename_i s rs' h1;cases h1;obtain ⟨l',h2,rfl⟩:=Option.map_eq_some_iff.1 h;rw [zr3 h2];rfl
  ·cases h
def zL6 (l:List ByteArray):List ByteArray:=((l.map fun s=>s.data.toList).mergeSort fun x y=>decide (x <=y)).map fun x=>⟨x.toArray⟩
structure zJM (P:Program) (f:Nat):Prop where
 none:∀(p:Option Addr) (cap:Nat) (w:World),Calls P f #[.slice p 0 cap] w fun e w'=>e=.returned (.tuple #[]) /\ w'=w
 some:∀(blk off cap:Nat) (ss:List (List UInt8)) (w:World),Sort.Holds encStr w blk off ss.toArray -> blk < w.heap.size -> ss.length < 4611686018427387904 ->
  Calls P f #[.slice (.some ⟨blk,off,.none⟩) ss.length cap] w fun e w'=>e=.returned (.tuple #[]) /\ ∃n os,w'=Sort.grow (Sort.putRow encStr (Sort.ahead w n) blk off (ss.mergeSort fun x y=>decide (x <=y)).toArray) os
section
variable {A:zx} {D:Nat -> Prop} {G:Gh} {ρ:Nat -> Option Nat} {σ:ASt} {a:Act} {w:World} {P:Program} {K:Nat -> Option Nat}
theorem Fr.more (h:Fr A D G ρ σ a w) {w':World} (hs:w.heap.size <=w'.heap.size) (hw:∀k,k < w.heap.size -> w'.heap[k]?=w.heap[k]?) (hio:Io w w'):Fr A D G ρ σ a w' /\ Ext D G w G w':=by
 have hx:Ext D G w G w':={ι:=fun _ _ h=>h,P:=fun _ _ h=>h,K:=rfl,cell:=fun b o v hp hc=>by rw [zaq (hw b (h.sim.lt b o hp))];exact hc,stay:=fun b o hp=>hw b (h.sim.lt b o hp),size:=hs,keep:=fun b hb _=>hw b hb,new:=fun _ _ h=>.inl h,io:=hio};have hsim:Sim G σ.S w':=by
  refine h.sim.keep hx.toLe (fun id _ hn=>(h.sim.fresh id hn).2) ?_ (fun _ _ _ _ _ _ _ _ hp=>hp) fun b o hp=>Nat.lt_of_lt_of_le (h.sim.lt b o hp) hs;intro id o x e hx' h0;obtain ⟨y,hy,ho⟩:=h.sim.obj id o e;rw [hx']at hy;cases hy;exact hw _ (ho.lt h0)
 refine ⟨h.keep hx hsim ?_ h.dwr,hx⟩;intro r cs b' e hb;exact ⟨hw _ (h.reg_lt e hb),fun _ hp=>hp,fun id o x ho hx' h0=>h.rhp r cs b' id o x e hb ho hx' h0⟩
theorem fr0 {S:AS} (hS:Sim G S w) (hg:qA A G w):Fr A (DW G S w) G (fun _=>none) ⟨[],fun _=>none,S⟩ {tmps:=#[],defers:=[]} w where
 defers:=rfl
 size:=rfl
 tmp:=fun p v e=>by simp at e
 reg:=fun r cs e=>by cases e
 rinj:=fun r r' cs cs' b e=>by cases e
 rhp:=fun r cs b id o x e=>by cases e
 sim:=hS
 dwr:=fun b h=>.inr h
 dnew:=fun b h=>.inl h
 glob:=hg
theorem znI:∀{l:List ByteArray} {vs:List (List Value)},zF G w 1 (zhW l) vs -> vs=l.map fun s=>[.string s]
 |[],_,.nil=>rfl
 |s::l,_,.cons h _ _ t=>by
  cases h with
  |cons h1 h2=>
   cases h2;cases h1 with
   |sc _=>rw [znI t];rfl
theorem zAG {l:List ByteArray}:(l.map fun s=>[Value.string s]).flatten=l.map Value.string:=by
 induction l with
 |nil=>rfl
 |cons s l ih=>simp [ih]
end
end Abs
namespace Abs
open Go Go.RowKit
section
variable {A:zx} {G:Gh} {w w':World} {P:Program} {K:Nat -> Option Nat} {S:AS}
theorem zef (hS:Sim G S w) (hg:qA A G w) (hb:Below w.heap.size w w') {r:AV} {v:Value} (hr:Rep G w' r v):kE G S w r S (.returned v) w':=by
 obtain ⟨F,X⟩:=(fr0 hS hg).more hb.size hb.block ⟨hb.os,hb.tape,hb.output⟩;exact ⟨v,G,rfl,hr,F.sim,X,fun b h=>.inr h⟩
def zq (n:Int):ByteArray:=⟨(Lib.itoa n).toArray⟩
def wO:List AV -> AS -> Option (AV×AS)
 |[.sc (.int .i64 n)],S=>if -9223372036854775808 <=n /\ n <=9223372036854775807 then some (.sc (.string (zq n)),S) else none
 |_,_=>none
def zmR:List Value:=Lib.pow10Tab.map fun z=>Value.int .u64 z
structure zAO (P:Program) (f:Nat):Prop where
 call:∀(n:Int),-9223372036854775808 <=n -> n <=9223372036854775807 -> ∀(w:World),Lib.TabIs P w "internal/strconv.uint64pow10" .u64 Lib.pow10Tab ->
  Calls P f #[.int .i64 n] w fun e w'=>e=.returned (.string ⟨(Lib.itoa n).toArray⟩) /\ ∃k os,w'=Sort.grow (w.drewN k) os
theorem zBX (w:World) (k:Nat) (os:Array Obj):Below w.heap.size w (Sort.grow (w.drewN k) os):=
 ⟨rfl,rfl,rfl,by simp [Sort.grow,World.drewN],fun i hi=>Sort.heap_grow_old _ os (by simpa [World.drewN] using hi)⟩
theorem zuQ {f g:Nat} (hc:zAO P f) (ha:A.glob 3=some (.iptr (zmR.map .sc))) (hk:K 10003=some g) (hg:P.globalNamed "internal/strconv.uint64pow10"=some g):zbf P A K f wO:=by
 intro args S r S' G w vargs hK hG hS hr hgl;unfold wO at hG;split at hG
 ·rename_i n;split at hG
  ·rename_i hn;cases hG;refine ⟨?_,Low.refl _⟩;cases hr with
   |cons h1 h2=>
    cases h2;cases h1;have hv:=zwD (hgl 3 _ ha g (by rw [hK];exact hk)) hg (by decide+kernel);refine (hc.call n hn.1 hn.2 w hv).mono ?_;rintro e w' ⟨rfl,k,os,rfl⟩;exact zef hS hgl (zBX w k os) (.sc rfl)
  ·cases hG
 ·cases hG
def za3:List AV -> AS -> Option (AV×AS)
 |[.sc (.string s)],S=>if s.size <=281474976710656 then some (match Lib.atoiAll s.data.toList with
  | .ok v=>.tup [.sc (.int .i64 v),.sc .nilIface]
  | .range=>.tup [.sc (.int .i64 (Lib.atoiSat s.data.toList)),.opq]
  |_=>.tup [.sc (.int .i64 0),.opq],S) else none
 |_,_=>none
structure zpc (P:Program) (f:Nat):Prop where
 ok:∀(s:ByteArray),s.size <=9223372036854775806 -> ∀v,Lib.atoiAll s.data.toList=.ok v -> ∀(w:World),Calls P f #[.string s] w fun e w'=>e=.returned (.tuple #[.int .i64 v,.nilIface]) /\ Below w.heap.size w w'
 syn:∀(s:ByteArray),s.size <=281474976710656 -> Lib.atoiAll s.data.toList=Lib.atoiAll [] -> ∀(tp:TypeId) (p:Value) (w:World),w.var? P "strconv.ErrSyntax"=some #[.iface tp p] ->
  Calls P f #[.string s] w fun e w'=>∃t v,e=.returned (.tuple #[.int .i64 0,.iface t v]) /\ Below w.heap.size w w'
 rng:∀(s:ByteArray),s.size <=281474976710656 -> Lib.atoiAll s.data.toList=.range -> ∀(tp:TypeId) (p:Value) (w:World),w.var? P "strconv.ErrRange"=some #[.iface tp p] ->
  Calls P f #[.string s] w fun e w'=>∃t v,e=.returned (.tuple #[.int .i64 (Lib.atoiSat s.data.toList),.iface t v]) /\ Below w.heap.size w w'
theorem zJb {w w':World} {e:TypeId} (h:w'=w \/ ∃t,w'=Lib.bytesWorld w e t):Below w.heap.size w w':=by
 rcases h with rfl|⟨t,rfl⟩
 ·exact Below.refl _ _
 ·exact Lib.bytesWorld_below _ _ _
theorem zse {n:String} {g:Nat} (h:kV G w (.iptr [.opq]) g) (hg:P.globalNamed n=some g):∃t v,w.var? P n=some #[.iface t v]:=by
 obtain ⟨h1,h2⟩:=h;cases h1 with
 |iptr ha hr=>
  cases hr with
  |cons h t=>
   cases t;cases h;rename_i tt vv;obtain ⟨c,t,f,hb,hs⟩:=h2 _ _ rfl;refine ⟨tt,vv,?_⟩;simp only [World.var?,hg,Option.bind_some,hb];congr 1;apply Array.ext_getElem?;intro i;by_cases hi:i < c.size
   ·have h0:i=0:=by simp at hs;omega
    subst h0;have:=(ha 0 _ rfl).2;rw [Nat.zero_add]at this;simp only [World.cell?,hb]at this;have this:c[0]?=_:=this;rw [this];rfl
   ·rw [Array.getElem?_eq_none (by omega),Array.getElem?_eq_none (by simp at hs ⊢;omega)]
theorem zHF {f g1 g2:Nat} (hc:zpc P f) (ha1:A.glob 1=some (.iptr [.opq])) (hk1:K 10001=some g1) (hg1:P.globalNamed "strconv.ErrRange"=some g1)
 (ha2:A.glob 2=some (.iptr [.opq])) (hk2:K 10002=some g2) (hg2:P.globalNamed "strconv.ErrSyntax"=some g2):zbf P A K f za3:=by
 intro args S r S' G w vargs hK hG hS hr hgl;unfold za3 at hG;split at hG
 ·rename_i s;split at hG
  ·rename_i hn;refine ⟨?_,?_⟩
   ·cases hr with
    |cons h1 h2=>
     cases h2;cases h1;cases he:Lib.atoiAll s.data.toList with
     |ok v=>
      rw [he]at hG;cases hG;refine (hc.ok s (by omega) v he w).mono ?_;rintro e w' ⟨rfl,hb⟩;exact zef hS hgl hb (.tup (.cons (.sc rfl) (.cons (.sc rfl) .nil)))
     |range=>
      rw [he]at hG;cases hG;obtain ⟨t,v,hv⟩:=zse (hgl 1 _ ha1 g1 (by rw [hK];exact hk1)) hg1;refine (hc.rng s hn he t v w hv).mono ?_;rintro e w' ⟨t',v',rfl,hb⟩;exact zef hS hgl hb (.tup (.cons (.sc rfl) (.cons .opq .nil)))
     |_=>
      rw [he]at hG;cases hG;obtain ⟨t,v,hv⟩:=zse (hgl 2 _ ha2 g2 (by rw [hK];exact hk2)) hg2;refine (hc.syn s hn he t v w hv).mono ?_;rintro e w' ⟨t',v',rfl,hb⟩;exact zef hS hgl hb (.tup (.cons (.sc rfl) (.cons .opq .nil)))
   ·cases he:Lib.atoiAll s.data.toList<;>(rw [he]at hG;cases hG;exact Low.refl _)
  ·cases hG
 ·cases hG
def zaQ (xs:List ByteArray) (sep:ByteArray):ByteArray:=⟨(Lib.join (xs.map (·.data.toList)) sep.data.toList).toArray⟩
def zbC:List AV -> AS -> Option (AV×AS)
 |[l,.sc (.string sep)],S=>(zv 1 S l).bind fun rs=>(zb4 rs).bind fun xs=>
  if xs.length <=140737488355328 /\ (Lib.join (xs.map (·.data.toList)) sep.data.toList).length <=140737488355328 then some (.sc (.string (zaQ xs sep)),S) else none
 |_,_=>none
structure zyx (P:Program) (f:Nat):Prop where
 none:∀(a:Option Addr) (c:Nat) (sep:ByteArray) (w:World),Calls P f #[.slice a 0 c,.string sep] w fun e w'=>e=.returned (.string ⟨#[]⟩) /\ w'=w
 some:∀(bk o c:Nat) (xs:List ByteArray) (sep:ByteArray) (w:World),(∀(j:Nat) x,xs[j]?=some x -> w.cell? ⟨bk,o+j,.none⟩=some (.string x)) -> bk < w.heap.size -> xs.length <=140737488355328 -> xs.length <=c ->
  (Lib.join (xs.map (·.data.toList)) sep.data.toList).length <=140737488355328 ->
  Calls P f #[.slice (.some ⟨bk,o,.none⟩) xs.length c,.string sep] w fun e w'=>e=.returned (.string ⟨(Lib.join (xs.map (·.data.toList)) sep.data.toList).toArray⟩) /\ Below w.heap.size w w'
theorem zva {sz:Nat} {v:AV} {ad:Option Addr} {n c:Nat} (hr:Rep G w v (.slice ad n c)) {ys:List (List AV)} (hy:zv sz S v=some ys):n <=c:=by
 unfold zv at hy;split at hy
 ·cases hr with
  |nil=>exact Nat.zero_le _
  |lst hn hc _ _ _=>omega
 ·cases hr with
  |arr h hl hN hcap ha=>omega
 ·cases hy
theorem zDW {f:Nat} (hc:zyx P f):zbf P A K f zbC:=by
 intro args S r S' G w vargs hK hG hS hr hgl;unfold zbC at hG;split at hG
 ·rename_i l sep;obtain ⟨rs,h1,hG⟩:=Option.bind_eq_some_iff.1 hG;obtain ⟨xs,h2,hG⟩:=Option.bind_eq_some_iff.1 hG;split at hG
  ·rename_i hn;cases hG;refine ⟨?_,Low.refl _⟩;obtain rfl:=zr3 h2;cases hr with
   |cons q1 q2=>
    cases q2 with
    |cons q2 q3=>
     cases q3;cases q2;rename_i x _;obtain ⟨ad,c,us,e1,k1,k2⟩:=zjQ (σ:=⟨[],fun _=>none,S⟩) hS q1 h1;subst e1;obtain rfl:=znI k1;have hcap:=zva q1 h1;have hlen:(zhW xs).length=xs.length:=by simp [zhW]
     rw [hlen]at hcap ⊢;cases xs with
     |nil=>
      refine (hc.none ad c sep w).mono ?_;rintro e w' ⟨rfl,rfl⟩;exact zef hS hgl (Below.refl _ _) (.sc rfl)
     |cons y ys=>
      rcases k2 with k2|⟨b,off,rfl,hcell⟩
      ·cases k2
      ·rw [zAG]at hcell;have hcell':∀(j:Nat) x,(y::ys)[j]?=some x -> w.cell? ⟨b,off+j,none⟩=some (.string x):=fun j x hx=>hcell j _ (by rw [List.getElem?_map,hx];rfl);refine (hc.some b off c (y::ys) sep w hcell' (zgf (hcell' 0 y rfl)) hn.1 hcap hn.2).mono ?_;rintro e w' ⟨rfl,hb⟩;exact zef hS hgl hb (.sc rfl)
  ·cases hG
 ·cases hG
end
theorem zxq {args:List AV} {S:AS} {r:AV} {S':AS} (h:wO args S=some (r,S')):Low S S':=by
 unfold wO at h;split at h
 ·split at h
  ·cases h;exact Low.refl _
  ·cases h
 ·cases h
theorem zBy {cols:List Nat} {args:List AV} {S:AS} {r:AV} {S':AS} (h:wO args S=some (r,S')):Frm cols S S':=by
 unfold wO at h;split at h
 ·split at h
  ·cases h;exact Frm.refl
  ·cases h
 ·cases h
theorem zE5 {args:List AV} {S:AS} {r:AV} {S':AS} (h:za3 args S=some (r,S')):Low S S':=by
 unfold za3 at h;split at h
 ·split at h
  ·cases h;exact Low.refl _
  ·cases h
 ·cases h
theorem zym {args:List AV} {S:AS} {r:AV} {S':AS} (h:zbC args S=some (r,S')):Low S S':=by
 unfold zbC at h;split at h
 ·obtain ⟨rs,h1,h⟩:=Option.bind_eq_some_iff.1 h;obtain ⟨xs,h2,h⟩:=Option.bind_eq_some_iff.1 h;split at h
  ·cases h;exact Low.refl _
  ·cases h
 ·cases h
def zbH (sz bytes:Nat) (zero:List AV):zd:=⟨8,
 .seq (.ops [
  ⟨some 2,.pur .mov,[.k (.lst 0 true [])],none⟩])<|
 .seq (.seq (.ops [
  ⟨some 3,.pur .mov,[.t 0],none⟩,
  ⟨some 4,.nilSl,[.t 3],none⟩])<|
 .cond (.t 4) (.seq (.ops [
  ⟨some 2,.pur .mov,[.k (.lst 0 true [])],none⟩])<|
  .ret) (.skip))<|
 .seq (.ops [
  ⟨some 5,.pur (.buildSl sz 0 zero []),[],none⟩,
  ⟨some 6,.pur .mov,[.t 0],none⟩,
  ⟨some 7,.append sz bytes,[.t 5,.t 6],none⟩,
  ⟨some 2,.pur .mov,[.t 7],none⟩])<|
 .ret,[.tmp 2]⟩
def qG (sz bytes:Nat):List AV -> AS -> Option (AV×AS)
 |[x],S=>(zv sz S x).bind fun ys=>
  if ys.length * bytes <=140737488355328 then some (.arr S.n sz 0 ys.length none,S.new (.rows sz ys)) else none
 |_,_=>none
theorem ztw {sz bytes:Nat} {args:List AV} {S S':AS} {r:AV} (h:qG sz bytes args S=some (r,S')):∃x ys,args=[x] /\ zv sz S x=some ys /\
 ys.length * bytes <=140737488355328 /\ r=.arr S.n sz 0 ys.length none /\ S'=S.new (.rows sz ys):=by
 unfold qG at h;split at h
 ·rename_i x;obtain ⟨ys,h1,h⟩:=Option.bind_eq_some_iff.1 h;split at h
  ·rename_i hb;cases h;exact ⟨x,ys,rfl,h1,hb,rfl,rfl⟩
  ·cases h
 ·cases h
theorem zkb {sz bytes:Nat} {args:List AV} {S:AS} {r:AV} {S':AS} (h:qG sz bytes args S=some (r,S')) (hn:S.ro <=S.n):Low S S':=by
 obtain ⟨_,_,_,_,_,_,rfl⟩:=ztw h;exact ⟨rfl,Nat.le_succ _,fun id hid=>if_neg (by omega)⟩
section
variable {A:zx} {P:Program} {K:Nat -> Option Nat} {G:Gh} {w:World}
theorem zEz {o:Op} {x:Nat} (h:yH P K o .nilSl [.t x]=true):∃t t' e,o=.binOp .eql t (.tmp x) (.const (.slice none 0 0)) t' /\ P.underlying t=some (.slice e):=by
 simp only [yH]at h;split at h
 ·rename_i t y t';simp only [Bool.and_eq_true]at h;obtain ⟨h1,h2⟩:=h;cases y<;>simp [zR,za1]at h2;subst h2;unfold zaW at h1;split at h1
  ·rename_i e hu;exact ⟨t,t',e,rfl,hu⟩
  ·cases h1
 ·cases h
theorem zCG {G G':Gh} {x:Nat×Nat×Nat} {o:jb} (h:Le G w G' w) (ho:vn G w x o):vn G' w x o:=by
 cases o with
 |rows sz rs=>
  obtain ⟨h1,h2,h3,h4⟩:=ho;refine ⟨h1,h2,h3,h4.imp id ?_⟩;rintro ⟨c,e,vs,q1,q2,q3,q4⟩;exact ⟨c,e,vs,q1,q2,q3.mono h,q4⟩
 |map es=>
  obtain ⟨h1,ms,cl,q1,q2,q3,q4⟩:=ho;exact ⟨h1,ms,cl,q1,q2,q3.mono h,q4⟩
def Gh.void (G:Gh) (id sz:Nat):Gh:={G with ι:=fun j=>if j=id then some (0,sz,0) else G.ι j}
theorem zA2 {S:AS} {sz:Nat} (h:Sim G S w) (hz:0 < sz):Sim (G.void S.n sz) (S.new (.rows sz [])) w /\ Le G w (G.void S.n sz) w:=by
 have hι:∀id x,G.ι id=some x -> (G.void S.n sz).ι id=some x:=fun id x e=>by
  have hid:id≠S.n:=by rintro rfl;rw [(h.fresh _ (Nat.le_refl _)).2]at e;cases e
  show (if id=S.n then _ else G.ι id)=_;rw [if_neg hid];exact e
 have hle:Le G w (G.void S.n sz) w:=⟨hι,fun _ _ h=>h,rfl,fun _ _ _ _ h=>h⟩;have hobj:∀id o,(S.new (.rows sz [])).heap id=some o -> (id=S.n /\ o=.rows sz []) \/ (id≠S.n /\ S.heap id=some o):=fun id o e=>by
  simp only [AS.new]at e;split at e
  ·rename_i hid;cases e;exact .inl ⟨hid,rfl⟩
  ·rename_i hid;exact .inr ⟨hid,e⟩
 have hpos:∀id o x,(S.new (.rows sz [])).heap id=some o -> (G.void S.n sz).ι id=some x -> 0 < x.2.2 -> S.heap id=some o /\ G.ι id=some x:=fun id o x e hx h0=>by
  rcases hobj id o e with ⟨rfl,rfl⟩|⟨hid,e⟩
  ·have hx:(if S.n=S.n then some (0,sz,0) else _)=some x:=hx;rw [if_pos rfl]at hx;cases hx;simp at h0
  ·have hx:(if id=S.n then some (0,sz,0) else G.ι id)=some x:=hx;rw [if_neg hid]at hx;exact ⟨e,hx⟩
 refine ⟨?_,hle⟩;exact {
  obj:=fun id o e=>by
   rcases hobj id o e with ⟨rfl,rfl⟩|⟨_,e⟩
   ·exact ⟨(0,sz,0),if_pos rfl,rfl,hz,Nat.le_refl _,.inl rfl⟩
   ·obtain ⟨x,hx,ho⟩:=h.obj id o e;exact ⟨x,hι _ _ hx,zCG hle ho⟩
  fresh:=fun id e=>by
   have e:S.n+1 <=id:=e;have hid:id≠S.n:=by omega
   refine ⟨?_,?_⟩
   ·show (if id=S.n then _ else S.heap id)=_;rw [if_neg hid];exact (h.fresh id (by omega)).1
   ·show (if id=S.n then _ else G.ι id)=_;rw [if_neg hid];exact (h.fresh id (by omega)).2
  inj:=fun id id' o o' x x' e e' hx hx' h0 h0'=>by
   obtain ⟨a1,a2⟩:=hpos _ _ _ e hx h0;obtain ⟨b1,b2⟩:=hpos _ _ _ e' hx' h0';exact h.inj _ _ _ _ _ _ a1 b1 a2 b2 h0 h0'
  own:=fun id o x off hr e hx h0=>by
   obtain ⟨a1,a2⟩:=hpos _ _ _ e hx h0;exact h.own id o x off hr a1 a2 h0
  lt:=h.lt
  ro:=Nat.le_succ_of_le h.ro}
theorem zvj {sz:Nat} {S:AS} {x:AV} {ys:List (List AV)} {v:Value} (h:zv sz S x=some ys) (hr:Rep G w x v):∃a n c,v=.slice a n c /\ (a=none -> ys=[]):=by
 unfold zv at h;split at h
 ·rename_i z f xs;obtain ⟨a,c,e,_,_,h3⟩:=hr.lst_inv;refine ⟨a,_,c,e,fun ha=>?_⟩;split at h
  ·cases h;rcases h3 with h3|⟨_,_,_,h3,_⟩
   ·exact h3
   ·rw [ha]at h3;cases h3
  ·cases h
 ·rename_i id z off n lim;obtain ⟨b,N,a,_,h1,_,h3,e⟩:=hr.arr_inv;refine ⟨a,_,_,e,fun ha=>?_⟩;have hn:n=0:=by
   rcases h3 with h3|h3
   ·omega
   ·rw [ha]at h3;cases h3
  subst hn;split at h
  ·unfold AS.slice at h;split at h
   ·split at h
    ·split at h
     ·cases h;simp
     ·cases h
    ·cases h
   ·cases h
  ·cases h
 ·cases h
theorem zzR {ev:Operand -> Value} {o:Oper} {t t' e:TypeId} {x:Operand} {a:Option Addr} {n c:Nat} (ho:o.op=.binOp .eql t x (.const (.slice none 0 0)) t') (hu:P.underlying t=some (.slice e)) (hx:ev x=.slice a n c) (hc:ev (.const (.slice none 0 0))=.slice none 0 0):
 (execOp ev o).run P w=.ok (.value (.bool a.isNone)) w:=by
 rw [zg4 _ _ ho,hx,hc];have h1:(eqGuard .eql t x (.const (.slice none 0 0)) (.slice a n c) (.slice none 0 0)).run P w=.ok () w:=by
  unfold eqGuard;rfl
 simp only [Sem.run_bind,h1,Result.andThen_ok,Go.run_eql_slice_nil w t e a n c hu,Sem.run_pure]
theorem zuZ (hA:Ok P A K) {f:Nat} {fn:Func} (hf:P.funcs[f]?=some fn) {sz bytes:Nat} {zero:List AV} (hz:zero.all AV.isCell=true) (hz0:0 < sz) (hok:vF P K A.mode (zY A) fn (zbH sz bytes zero)=true) (hnd:(match fn.body with|some c=>zbl c|none=>false)=true):zbf P A K f (qG sz bytes):=by
 intro args S r S' G w vargs hK hg hS hr hgl;refine ⟨?_,zkb hg hS.ro⟩;obtain ⟨x,ys,rfl,hrows,hbg,rfl,rfl⟩:=ztw hg;simp only [vF,Bool.and_eq_true,beq_iff_eq]at hok;obtain ⟨⟨hn,hres⟩,hb⟩:=hok;obtain ⟨code,hbody⟩:∃c,fn.body=some c:=by
  cases h:fn.body with
  |none=>rw [h]at hb;cases hb
  |some c=>exact ⟨c,rfl⟩
 rw [hbody]at hnd hb;have hFr:=znC (ρ:=fun _=>none) (A:=A) hS hgl hr (fn:=fn) (af:=zbH sz bytes zero) hn;refine calls_of_wp hf hbody ?_;change yR P K A.mode (zY A) code (zbH sz bytes zero).body=true at hb;unfold zbH at hb;simp only at hb;obtain ⟨c1,c2,rfl,ok1,hb⟩:=zmc hb;obtain ⟨c3,c4,rfl,ok3,ok4⟩:=zmc hb;obtain ⟨c5,c6,rfl,ok5,ok6⟩:=zmc ok3;obtain ⟨id5,os5,dr5,rfl,oo5,_⟩:=zzy ok5;simp [zbl]at hnd;obtain ⟨_,⟨rfl,_⟩,_⟩:=hnd;obtain ⟨sz5,at5⟩:=zHY oo5;have hst:(zbH sz bytes zero).start [x] S=st 8 (ini [x]) (fun _=>none) S:=zo0 (show 1 <=8 by omega);rw [hst]at hFr;have hR:=zqP hA;have run1:run A (.ops [⟨some 2,.pur .mov,[.k (.lst 0 true [])],none⟩]) (st 8 (ini [x]) (fun _=>none) S)=some (.normal,st 8 (put (ini [x]) 2 (.lst 0 true [])) (fun _=>none) S):=by
  show zA A _ _ []=_;simp
 refine wp_seq (wp_mono (hR _ _ _ _ _ _ _ _ _ _ hK ok1 run1 hFr).1 ?_);rintro x1 a1 w1 ⟨rfl,G1,ρ1,hF1,hx1⟩;show Code.wp P _ _ a1 w1;have hK1:G1.K=K:=hx1.K.trans hK;have hnr:x.isReg=false:=by
  cases x<;>first|rfl|(simp [zv]at hrows)
 refine wp_seq (wp_seq (wp_region ?_));rw [sz5,show List.range [(⟨some 3,.pur .mov,[.t 0],none⟩:zn),⟨some 4,.nilSl,[.t 3],none⟩].length=List.range' 0 1++[1] from rfl];have run2:y7 A (run A) [⟨some 3,.pur .mov,[.t 0],none⟩] (st 8 (put (ini [x]) 2 (.lst 0 true [])) (fun _=>none) S)=some (st 8 (put (put (ini [x]) 2 (.lst 0 true [])) 3 x) (fun _=>none) S):=by
  have:yX A [⟨some 3,.pur .mov,[.t 0],none⟩] (st 8 (put (ini [x]) 2 (.lst 0 true [])) (fun _=>none) S) []=some (.normal,st 8 (put (put (ini [x]) 2 (.lst 0 true [])) 3 x) (fun _=>none) S):=by
   simp [zk]
  unfold yX at this;rw [zqA,Option.map_eq_some_iff]at this;obtain ⟨σ',h1,h2⟩:=this;cases h2;exact h1
 refine zmN hA hR 1 0 _ _ _ _ _ _ _ hK1 hF1 ?_ rfl run2 ?_
 ·intro j hj;obtain ⟨o,i,h1,h2,h3⟩:=at5 j (by simp;omega);refine ⟨o,i,by rw [Nat.zero_add];exact h1,?_,h3⟩
  match j,hj with
  |0,_=>simpa using h2
 intro G3 ρ3 a3 w3 hF3 hx3;have hK3:G3.K=K:=hx3.K.trans hK1;obtain ⟨o4,i4,ho4,hi4,hk4⟩:=at5 1 (by simp);simp at hi4;subst hi4;obtain ⟨hdst,hop,hgd⟩:=zDl hk4;obtain ⟨t,t',e,hop,hsl⟩:=zEz hop;have hrep:Rep G3 w3 x (a3.eval (.tmp 3)):=by
  have:=hF3.tmp 3 x (by show (jS 8 _)[3]?=_;simp [jS,zk]);cases x with
  |reg r c=>cases hnr
  |_=>exact this
 obtain ⟨ad,n,c,hev,hnil⟩:=zvj hrows hrep;refine zA6 ho4 hgd (zzR hop hsl hev rfl) ?_;have hp4:=hF3.put o4.dst (v:=.b ad.isNone) (x:=.bool ad.isNone) (Rep.trep (.sc rfl));rw [hdst]at hp4 ⊢;have hp4:Fr A (DW G S w) G3 ρ3 (st 8 (put (put (put (ini [x]) 2 (.lst 0 true [])) 3 x) 4 (.b ad.isNone)) (fun _=>none) S) _ _:=za5 (d:=some 4)▸hp4;show Code.wp P c6 _ _ _;have hro:=hS.ro;cases had:ad.isNone with
 |true=>
  rw [had]at hp4;have hys:=hnil (by simpa using had);subst hys;have run6:run A (.cond (.t 4) (.seq (.ops [⟨some 2,.pur .mov,[.k (.lst 0 true [])],none⟩])<|.ret) (.skip)) (st 8 (put (put (put (ini [x]) 2 (.lst 0 true [])) 3 x) 4 (.b true)) (fun _=>none) S)=some (.ret,st 8 (put (put (put (put (ini [x]) 2 (.lst 0 true [])) 3 x) 4 (.b true)) 2 (.lst 0 true [])) (fun _=>none) S):=by
   show zA A _ _ []=_;simp [zk]
  refine wp_mono (hR _ _ _ _ _ _ _ _ _ _ hK3 ok6 run6 hp4).1 ?_;rintro x6 a6 w6 ⟨rfl,G6,ρ6,hF6,hx6⟩;obtain ⟨_,v,hv,hrepv⟩:=zmI (af:=zbH sz bytes zero) hF6 hres (r:=.lst 0 true []) (S':=S) (by
   rw [znj];show zaC (y6 [.tmp 2] _ _ _ _) _=_;simp [y6,jc,zk])
  obtain ⟨s1,s2⟩:=zA2 hF6.sim hz0;have hrep0:Rep (G6.void S.n sz) w6 (.arr S.n sz 0 0 none) v:=by
   obtain ⟨a,c,e,_,hc,_⟩:=hrepv.lst_inv;have hc:=hc rfl;subst hc;subst e;exact .arr (b:=0) (N:=0) (if_pos rfl) (by simp) (by simp) (by simp) (.inl rfl)
  refine ⟨hF6.defers,v,hv,v,_,rfl,hrep0,s1,((hx1.trans hx3).trans hx6).trans ?_,fun b h=>?_⟩
  ·exact {s2 with size:=Nat.le_refl _,keep:=fun _ _ _=>rfl,new:=fun _ _ h=>.inl h,stay:=fun _ _ _=>rfl,io:=Io.refl _}
  ·obtain ⟨id,o,x',hr',e,hx',h0,rfl⟩:=h;rcases (show (id=S.n /\ o=jb.rows sz []) \/ (id≠S.n /\ S.heap id=some o) from by
    simp only [AS.new]at e;split at e
    ·rename_i hid;cases e;exact .inl ⟨hid,rfl⟩
    ·rename_i hid;exact .inr ⟨hid,e⟩) with ⟨rfl,rfl⟩|⟨hid,e⟩
   ·have hx':(if S.n=S.n then some (0,sz,0) else _)=some x':=hx';rw [if_pos rfl]at hx';cases hx';simp at h0
   ·have hx':(if id=S.n then some (0,sz,0) else G6.ι id)=some x':=hx';rw [if_neg hid]at hx';exact hF6.dwr _ ⟨id,o,x',hr',e,hx',h0,rfl⟩
 |false=>
  rw [had]at hp4;have run6:run A (.cond (.t 4) (.seq (.ops [⟨some 2,.pur .mov,[.k (.lst 0 true [])],none⟩])<|.ret) (.skip)) (st 8 (put (put (put (ini [x]) 2 (.lst 0 true [])) 3 x) 4 (.b false)) (fun _=>none) S)=some (.normal,st 8 (put (put (put (ini [x]) 2 (.lst 0 true [])) 3 x) 4 (.b false)) (fun _=>none) S):=by
   show zA A _ _ []=_;simp [zk]
  refine wp_mono (hR _ _ _ _ _ _ _ _ _ _ hK3 ok6 run6 hp4).1 ?_;rintro x6 a6 w6 ⟨rfl,G6,ρ6,hF6,hx6⟩;show Code.wp P c4 _ a6 w6;have hK6:G6.K=K:=hx6.K.trans hK3;have hz':=hz;have run7:∃e7,e7 2=.arr S.n sz 0 ys.length none /\ run A (.seq (.ops [
   ⟨some 5,.pur (.buildSl sz 0 zero []),[],none⟩,
   ⟨some 6,.pur .mov,[.t 0],none⟩,
   ⟨some 7,.append sz bytes,[.t 5,.t 6],none⟩,
   ⟨some 2,.pur .mov,[.t 7],none⟩])<|.ret) (st 8 (put (put (put (ini [x]) 2 (.lst 0 true [])) 3 x) 4 (.b false)) (fun _=>none) S)=some (.ret,st 8 e7 (fun _=>none) (S.new (.rows sz ys))):=by
   refine ⟨put (put (put (put (put (put (put (ini [x]) 2 (.lst 0 true [])) 3 x) 4 (.b false)) 5 (.lst sz true [])) 6 x) 7 (.arr S.n sz 0 ys.length none)) 2 (.arr S.n sz 0 ys.length none),by simp [zk],?_⟩;have ha:∀d rg,za (.append sz bytes) d rg S [.lst sz true [],x]=some (.arr S.n sz 0 ys.length none,none,S.new (.rows sz ys)):=by
    intro d rg;cases ys with
    |nil=>simp [za,hrows,jd]
    |cons y ys=>simpa [za,hrows,jd] using hbg
   show zA A _ _ []=_;simp [zk,hz,zw,ha]
  obtain ⟨e7,he7,run7⟩:=run7;refine wp_mono (hR _ _ _ _ _ _ _ _ _ _ hK6 ok4 run7 hF6).1 ?_;rintro x8 a8 w8 ⟨rfl,G8,ρ8,hF8,hx8⟩;obtain ⟨_,v,hv,hrepv⟩:=zmI (af:=zbH sz bytes zero) hF8 hres (r:=.arr S.n sz 0 ys.length none) (S':=S.new (.rows sz ys)) (by
   rw [znj];show zaC (y6 [.tmp 2] _ _ _ _) _=_;simp [y6,jc,he7])
  exact ⟨hF8.defers,v,hv,v,G8,rfl,hrepv,hF8.sim,(((hx1.trans hx3).trans hx6).trans hx8),hF8.dwr⟩
theorem zuz {A:zx} {f:Nat} {fn:Func} (hf:P.funcs[f]?=some fn) {sz bytes:Nat} {zero:List AV} (hz:zero.all AV.isCell=true) (hz0:0 < sz) (hok:vF P K (fun _=>.keep) (fun _=>false) fn (zbH sz bytes zero)=true) (hnd:(match fn.body with|some c=>zbl c|none=>false)=true):zbf P A K f (qG sz bytes):=by
 intro args S r S' G w vargs hK hg hS hr hgl;exact zuZ (A:=A0 fun _=>none) zDD hf hz hz0 hok hnd args S r S' G w vargs hK hg hS hr (fun _ _ h=>by cases h)
end
def zwO (l:List Int):List (List AV):=l.map fun s=>[.sc (.int .i64 s)]
def zrJ:List (List AV) -> Option (List Int)
 |[]=>some []
 |[.sc (.int .i64 s)]::l=>(zrJ l).map (s::·)
 |_=>none
def zIq (l:List Int):List Int:=l.mergeSort fun x y=>decide (x <=y)
def zJG:List AV -> AS -> Option (AV×AS)
 |[.lst _ true []],S=>some (.tup [],S)
 |[.arr id 1 0 n _],S=>
  match S.heap id with
  |some (.rows 1 rs)=>match zrJ rs with
   |some l=>if S.ro <=id /\ n=rs.length /\ 0 < n /\ n < 4611686018427387904 then some (.tup [],S.set id (some (.rows 1 (zwO (zIq l))))) else none
   |none=>none
  |_=>none
 |_,_=>none
structure zKf (P:Program) (f:Nat):Prop where
 none:∀(p:Option Addr) (cap:Nat) (w:World),Calls P f #[.slice p 0 cap] w fun e w'=>e=.returned (.tuple #[]) /\ w'=w
 some:∀(blk off cap:Nat) (ss:List Int) (w:World),Sort.Holds (Value.int .i64) w blk off ss.toArray -> blk < w.heap.size -> ss.length < 4611686018427387904 ->
  Calls P f #[.slice (.some ⟨blk,off,.none⟩) ss.length cap] w fun e w'=>e=.returned (.tuple #[]) /\ ∃n os,w'=Sort.grow (Sort.putRow (Value.int .i64) (Sort.ahead w n) blk off (ss.mergeSort fun x y=>decide (x <=y)).toArray) os
section
variable {A:zx} {D:Nat -> Prop} {G:Gh} {ρ:Nat -> Option Nat} {σ:ASt} {a:Act} {w:World} {P:Program} {K:Nat -> Option Nat}
end
end Abs
