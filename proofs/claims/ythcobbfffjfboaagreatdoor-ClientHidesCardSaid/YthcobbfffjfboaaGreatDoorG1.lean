/- Calls of the program AA; loops; what a call gives back. -/
import Derived.Test.YthcobbfffjfboaaGreatDoorPr
import Derived.Test.YthcobbfffjfboaaGreatDoorE4
set_option linter.unusedVariables false
set_option linter.unusedSimpArgs false
set_option linter.unusedSectionVars false
namespace Abs
open Go
abbrev zrw (k:Nat) (f:zd):Prop:=AA.ext k=none /\ AA.funcs k=some f /\ AA.mode k=.calm
abbrev zww (k:Nat) (f:zd):Prop:=AA.ext k=none /\ AA.funcs k=some f /\ AA.mode k=.keep
section
variable {S:AS} {k:Nat} {f:zd} {args:List AV}
theorem zh (h:zrw k f) (hr:args.any AV.isReg=false) (hz:yU args=args) (hl:Nat.ble args.length f.ntmps=true):
 call k args S=zW S (fin f.res (zA AA f.body (st f.ntmps (ini args) (fun _=>none) {S with ro:=S.n}) [])):=
 ztJ h.1 h.2.1 h.2.2 hr hz (Nat.le_of_ble_eq_true hl)
theorem wR (h:zrw k f) {args':List AV} (hr:args.any AV.isReg=false) (hz:yU args=args') (hl:Nat.ble args'.length f.ntmps=true):
 call k args S=zW S (fin f.res (zA AA f.body (st f.ntmps (ini args') (fun _=>none) {S with ro:=S.n}) [])):=
 ztJ h.1 h.2.1 h.2.2 hr hz (Nat.le_of_ble_eq_true hl)
theorem ym (h:zww k f) (hr:args.any AV.isReg=false) (hl:Nat.ble args.length f.ntmps=true):
 call k args S=fin f.res (zA AA f.body (st f.ntmps (ini args) (fun _=>none) S) []):=
 zBN h.1 h.2.1 h.2.2 hr (Nat.le_of_ble_eq_true hl)
theorem zfx {g:List AV -> AS -> Option (AV×AS)} (h:AA.ext k=some g) (hr:args.any AV.isReg=false):call k args S=g args S:=zwY h hr
theorem zg {S S':AS} {v:AV}:zW S (some (v,S'))=(S'.frzTo S.n 2 v).bind fun v=>if v.pure then some (v,S) else none:=rfl
theorem jY {α:Type} {tm:List Nat} {c:ACode} {N:Nat} {ks:List Kn} {res:List qN} (Inv:α -> (Nat -> AV) -> (Nat -> Option (List AV)) -> AS -> Prop) (μ:α -> Nat) {R:α -> Option (AV×AS) -> Prop}
 (h:∀(kk:List Kn),kk=.loop tm [] c::ks -> ∀a e rg S,Inv a e rg S -> (∀a' e' rg' S',μ a' < μ a -> (∀r,R a' r -> R a r) -> Inv a' e' rg' S' -> R a (fin res (unw AA (some (.normal,st N e' rg' S')) kk))) -> R a (fin res (zA AA c (st N (fgt tm e) rg S) kk))):
 ∀a e rg S,Inv a e rg S -> R a (fin res (zA AA (.loop tm [] c) (st N e rg S) ks)):=by
 have key:∀n a,μ a=n -> ∀e rg S,Inv a e rg S -> R a (fin res (zA AA (.loop tm [] c) (st N e rg S) ks)):=by
  intro n
  induction n using Nat.strongRecOn with
  |_ n ih=>
   intro a hn e rg S hi;rw [vj];refine h _ rfl a e rg S hi fun a' e' rg' S' hlt hr hi'=>?_;rw [wV];exact hr _ (ih (μ a') (hn▸hlt) a' rfl e' rg' S' hi')
 exact fun a e rg S hi=>key _ a rfl e rg S hi
def okR (rgs:List Nat):AV -> Bool
 | .reg r _=>!rgs.contains r
 |_=>true
def NQ (tm rgs:List Nat) (e:Nat -> AV):Prop:=∀n,(tm.contains n ||okR rgs (e n))=true
theorem zCm {rgs:List Nat} {v:AV} (h:v.isReg=false):okR rgs v=true:=by cases v<;>first|rfl|(simp [AV.isReg]at h)
theorem yh {tm rgs:List Nat} {e:Nat -> AV} {d:Nat} {v:AV} (h:NQ tm rgs e) (hd:(tm.contains d ||okR rgs v)=true):NQ tm rgs (put e d v):=by
 intro n;rw [zk];split
 ·rename_i h1;subst h1;exact hd
 ·exact h n
theorem zaH {tm rgs:List Nat} {e:Nat -> AV} (h:NQ tm rgs e):NQ tm rgs (fgt tm e):=by
 intro n;rw [zj1];split
 ·rename_i h1;rw [h1];rfl
 ·exact h n
theorem vx {tm rgs:List Nat} {args:List AV} (h:args.any AV.isReg=false):NQ tm rgs (ini args):=by
 intro n;unfold ini;rw [List.getD_eq_getElem?_getD];cases hg:args[n]? with
 |none=>simp [okR]
 |some v=>
  rw [List.any_eq_false]at h;have:=h v (List.mem_of_getElem? hg);simp [zCm (rgs:=rgs) (by simpa using this)]
theorem zBh {tm rgs:List Nat} {N:Nat} {e:Nat -> AV} {rg:Nat -> Option (List AV)} {S:AS} (h:NQ tm rgs e):wg tm rgs (st N e rg S)=some (st N (fgt tm e) (zb2 rgs rg) S):=by
 unfold wg st;have h0:((jS N e).zipIdx.map fun p=>if tm.contains p.2 then AV.junk else p.1)=jS N (fgt tm e):=by
  apply List.ext_getElem?;intro i;unfold jS fgt;rw [List.getElem?_map,List.getElem?_zipIdx,List.getElem?_map,List.getElem?_map];by_cases hi:i < N
  ·rw [List.getElem?_range hi];simp
  ·rw [List.getElem?_eq_none (by simpa using hi)];rfl
 simp only;rw [h0];refine (if_neg fun hh=>?_).trans rfl;obtain ⟨x,hx1,hx⟩:=List.any_eq_true.1 hh;unfold jS at hx1;obtain ⟨n,_,rfl⟩:=List.mem_map.1 hx1;rw [zj1]at hx;by_cases hn:tm.contains n=true
 ·rw [if_pos hn]at hx;simp at hx
 ·rw [if_neg hn]at hx;have:=h n;cases hv:e n with
  |reg r c=>
   rw [hv]at hx this;simp only [okR]at this;simp at hx hn this;rcases this with h1|h1
   ·exact hn h1
   ·exact h1 hx
  |_=>rw [hv]at hx;simp at hx
theorem ko {α:Type} {tm rgs:List Nat} {c:ACode} {N:Nat} {ks:List Kn} {res:List qN} (Inv:α -> (Nat -> AV) -> (Nat -> Option (List AV)) -> AS -> Prop) (μ:α -> Nat) {R:α -> Option (AV×AS) -> Prop}
 (hnr:∀a e rg S,Inv a e rg S -> NQ tm rgs e)
 (h:∀(kk:List Kn),kk=.loop tm rgs c::ks -> ∀a e rg S,Inv a e rg S -> (∀a' e' rg' S',μ a' < μ a -> (∀r,R a' r -> R a r) -> Inv a' e' rg' S' -> R a (fin res (unw AA (some (.normal,st N e' rg' S')) kk))) -> R a (fin res (zA AA c (st N (fgt tm e) (zb2 rgs rg) S) kk))):
 ∀a e rg S,Inv a e rg S -> R a (fin res (zA AA (.loop tm rgs c) (st N e rg S) ks)):=by
 have key:∀n a,μ a=n -> ∀e rg S,Inv a e rg S -> R a (fin res (zA AA (.loop tm rgs c) (st N e rg S) ks)):=by
  intro n
  induction n using Nat.strongRecOn with
  |_ n ih=>
   intro a hn e rg S hi;have he:zA AA (.loop tm rgs c) (st N e rg S) ks=zA AA c (st N (fgt tm e) (zb2 rgs rg) S) (.loop tm rgs c::ks):=by
    unfold zA;rw [zaU];simp only [jk,zBh (hnr a e rg S hi),Option.bind_some];rfl
   rw [he];refine h _ rfl a e rg S hi fun a' e' rg' S' hlt hr hi'=>?_;rw [wV];exact hr _ (ih (μ a') (hn▸hlt) a' rfl e' rg' S' hi')
 exact fun a e rg S hi=>key _ a rfl e rg S hi
theorem zrD {rgs:List Nat} {rg:Nat -> Option (List AV)} {n:Nat}:zb2 rgs rg n=if rgs.contains n then none else rg n:=rfl
end
theorem zhO {o:Nat -> Nat -> Nat -> Nat -> Option (List (List AV))}:∀{l:List AV},jZ o l=zE (AV.frz o) l
 |[]=>rfl
 |a::l=>by simp only [jZ,zE,zhO]
theorem zho {o:Nat -> Nat -> Nat -> Nat -> Option (List (List AV))}:∀{l:List (List AV)},qe o l=zE (zE (AV.frz o)) l
 |[]=>rfl
 |a::l=>by simp only [qe,zE,zhO,zho]
section
variable {S:AS} {b d:Nat}
@[simp] theorem zJ6 {α β:Type} {f:α -> Option β}:zE f []=some []:=rfl
@[simp] theorem zLV {α β:Type} {f:α -> Option β} {a:α} {l:List α}:zE f (a::l)=(f a).bind fun b=>(zE f l).map (b::·):=rfl
@[simp] theorem zAT {v:Value}:S.frzTo b d (.sc v)=some (.sc v):=by cases d<;>rfl
@[simp] theorem zNt:S.frzTo b d .opq=some .opq:=by cases d<;>rfl
@[simp] theorem zKh {cs:List AV}:S.frzTo b d (.agg cs)=(zE (S.frzTo b d) cs).map .agg:=by cases d<;>(simp only [AS.frzTo,AV.frz,zhO])
@[simp] theorem zMZ {cs:List AV}:S.frzTo b d (.tup cs)=(zE (S.frzTo b d) cs).map .tup:=by cases d<;>(simp only [AS.frzTo,AV.frz,zhO])
@[simp] theorem zr7 {z:Nat} {f:Bool} {xs:List (List AV)}:S.frzTo b d (.lst z f xs)=(zE (zE (S.frzTo b d)) xs).map (lstN z):=by cases d<;>(simp only [AS.frzTo,AV.frz,zho])
@[simp] theorem zJS {z:Nat} {xs:List (List AV)}:S.frzTo b d (lstN z xs)=(zE (zE (S.frzTo b d)) xs).map (lstN z):=by
 cases xs with
 |nil=>cases d<;>rfl
 |cons x xs=>unfold lstN;rw [zr7];rfl
theorem zC4 {id sz off n:Nat} {lim:Option Nat} {rs:List (List AV)} (h:S.slice b id sz off n=some rs):S.frzTo b (d+1) (.arr id sz off n lim)=(zE (zE (S.frzTo b d)) rs).map (lstN sz):=by
 simp only [AS.frzTo,AV.frz,h,Option.bind_some]
end
def zqL:AV -> Option AV
 | .reg _ _=>none
 |v=>some v
@[simp] theorem zLS {v:AV}:zqL v=if v.isReg=true then none else some v:=by cases v<;>rfl
@[simp] theorem zNf {t N:Nat} {e:Nat -> AV} {rg:Nat -> Option (List AV)} {S:AS}:jc (.tmp t) N e rg S=zqL (if t < N then e t else .junk):=by
 simp only [jc];generalize (if t < N then e t else AV.junk)=v;cases v<;>rfl
@[simp] theorem zNc {t sz N:Nat} {g:Bool} {e:Nat -> AV} {rg:Nat -> Option (List AV)} {S:AS}:jc (.cell t sz g) N e rg S=
 match (if t < N then e t else .junk) with
 | .reg r c=>(rg r).bind fun cs=>yM cs c sz g
 | .iptr cs=>yM cs 0 sz g
 | .ptr id row c=>match S.heap id with
   |some (.rows _ rs)=>(rs[row]?).bind fun cs=>yM cs c sz g
   |_=>none
 |_=>none:=rfl
def znv (rgs:List Nat) (v:AV):Bool:=okR rgs v
@[simp] theorem zKe {rgs:List Nat} {v:AV}:okR rgs v=if v.isReg=true then znv rgs v else true:=by cases v<;>rfl
@[simp] theorem zMx {rgs:List Nat} {r c:Nat}:znv rgs (.reg r c)=!rgs.contains r:=rfl
@[simp] theorem zMO {r c:Nat}:(AV.reg r c).isReg=true:=rfl
attribute [simp] zg AV.pure jR y6 vm zw yU AV.nrm setCells zk vd zrD
inductive T:Type
 |mk (kind:Int) (name:ByteArray) (kids:List T)
 deriving Inhabited
def T.kind:T -> Int| .mk k _ _=>k
def T.name:T -> ByteArray| .mk _ n _=>n
def T.kids:T -> List T| .mk _ _ l=>l
mutual
def T.cells:T -> List AV
 | .mk k n l=>[.sc (.int .i64 k),.sc (.string n),lstN 3 (yr l)]
def yr:List T -> List (List AV)
 |[]=>[]
 |t::l=>t.cells::yr l
end
theorem kJ:∀{l:List T},yr l=l.map T.cells
 |[]=>rfl
 |t::l=>by rw [yr,kJ];rfl
def zf (l:List T):AV:=lstN 3 (l.map T.cells)
theorem zu (t:T):t.cells=[.sc (.int .i64 t.kind),.sc (.string t.name),zf t.kids]:=by
 obtain ⟨k,n,l⟩:=t;rw [T.cells,kJ];rfl
mutual
theorem T.frz_cells (o:Nat -> Nat -> Nat -> Nat -> Option (List (List AV))):∀t:T,jZ o t.cells=some t.cells
 | .mk k n l=>by
   rw [T.cells];simp only [jZ,AV.frz,lstN,Option.bind_some,zf0 o l,Option.map_some];split<;>simp_all
theorem zf0 (o:Nat -> Nat -> Nat -> Nat -> Option (List (List AV))):∀l:List T,qe o (yr l)=some (yr l)
 |[]=>rfl
 |t::l=>by
  rw [yr];simp only [qe,T.frz_cells o t,Option.bind_some,zf0 o l,Option.map_some]
end
mutual
theorem T.pure_cells:∀t:T,jR t.cells=true
 | .mk k n l=>by
   rw [T.cells];simp [jR,AV.pure,lstN,zjO l]
theorem zjO:∀l:List T,qS (yr l)=true
 |[]=>rfl
 |t::l=>by
  rw [yr];simp [qS,T.pure_cells t,zjO l]
end
mutual
theorem T.nrm_cells:∀t:T,yU t.cells=t.cells
 | .mk k n l=>by
   rw [T.cells];simp only [yU,AV.nrm,lstN,zgX l];cases l<;>rfl
theorem zgX:∀l:List T,kq (yr l)=yr l
 |[]=>rfl
 |t::l=>by rw [yr,kq,T.nrm_cells t,zgX l]
end
@[simp] theorem T.len_cells (t:T):t.cells.length=3:=by rw [zu];rfl
@[simp] theorem zMl (l:List T):(zf l).isCell=true:=rfl
@[simp] theorem zJO (l:List T):(zf l).isReg=false:=rfl
@[simp] theorem zMc (l:List T):(zf l).cells=[zf l]:=rfl
@[simp] theorem T.cell_cells (t:T):t.cells.all AV.isCell=true:=by rw [zu];rfl
@[simp] theorem T.get0 (t:T):yM t.cells 0 1 false=some (.sc (.int .i64 t.kind)):=by rw [zu];rfl
@[simp] theorem T.get1 (t:T):yM t.cells 1 1 false=some (.sc (.string t.name)):=by rw [zu];rfl
@[simp] theorem T.get2 (t:T):yM t.cells 2 1 false=some (zf t.kids):=by rw [zu];rfl
@[simp] theorem T.get3 (t:T):yM t.cells 0 3 true=some (.agg t.cells):=by rw [zu];rfl
@[simp] theorem T.tk0 (t:T):t.cells.take 1=[.sc (.int .i64 t.kind)]:=by rw [zu];rfl
@[simp] theorem T.tk1 (t:T):(t.cells.drop 1).take 1=[.sc (.string t.name)]:=by rw [zu];rfl
@[simp] theorem T.tk1' (t:T):t.cells.tail.take 1=[.sc (.string t.name)]:=by rw [zu];rfl
@[simp] theorem T.tk2 (t:T):(t.cells.drop 2).take 1=[zf t.kids]:=by rw [zu];rfl
@[simp] theorem T.tk3 (t:T):t.cells.take 3=t.cells:=List.take_of_length_le (by simp)
@[simp] theorem T.fd0 (t:T):pev (.field 0 1 false) [.agg t.cells]=some (.sc (.int .i64 t.kind)):=by rw [zu];rfl
@[simp] theorem T.fd1 (t:T):pev (.field 1 1 false) [.agg t.cells]=some (.sc (.string t.name)):=by rw [zu];rfl
@[simp] theorem T.fd2 (t:T):pev (.field 2 1 false) [.agg t.cells]=some (zf t.kids):=by rw [zu];rfl
@[simp] theorem zLG (l:List T):pev .lenL [zf l]=some (.sc (.int .i64 l.length)):=by simp [pev,zf,lstN]
theorem zI {l:List T} {i:Nat} {t:T} (h:l[i]?=some t):pev (.iaddr 3) [zf l,.sc (.int .i64 (i:Int))]=some (.iptr t.cells):=by
 have hne:l≠[]:=by rintro rfl;simp at h
 have:(l.map T.cells).isEmpty=false:=by cases l with|nil=>exact absurd rfl hne|cons _ _=>rfl
 simp [pev,zf,lstN,this,h]
theorem zd5 (S:AS) (l:List T):zv 3 S (zf l)=some (l.map T.cells):=by
 cases l<;>simp [zv,zf,lstN]
theorem zn4 (S:AS) (least d:Nat) (t:T):S.frzTo least d (.agg t.cells)=some (.agg t.cells):=by
 cases d<;>simp only [AS.frzTo,AV.frz,T.frz_cells,Option.map_some]
theorem ziF (t:T):(AV.agg t.cells).pure=true:=by simp [AV.pure,T.pure_cells]
theorem zIX (S:AS) (least d:Nat) (l:List T):S.frzTo least d (zf l)=some (zf l):=by
 unfold zf;rw [<- kJ];cases d<;>simp only [AS.frzTo,lstN,AV.frz,zf0,Option.map_some]<;>split<;>simp_all
theorem zrO (l:List T):(zf l).pure=true:=by
 unfold zf lstN;rw [<- kJ];simp [AV.pure,zjO]
@[simp] theorem zft (l:List T):(zf l).nrm=zf l:=by
 unfold zf lstN;rw [AV.nrm,<- kJ,zgX];unfold lstN;cases l<;>rfl
@[simp] theorem zfH (z:Nat) (f:Bool) (l:List T) (h:l≠[] -> z=3):(AV.lst z f (l.map T.cells)).nrm=zf l:=by
 rw [AV.nrm,<- kJ,zgX,kJ];unfold zf lstN;cases l with
 |nil=>rfl
 |cons t l=>rw [h (by simp)]
@[simp] theorem zsK (o:Nat -> Nat -> Nat -> Nat -> Option (List (List AV))) (l:List T):(zf l).frz o=some (zf l):=by
 unfold zf lstN;rw [AV.frz,<- kJ,zf0];unfold lstN;cases l<;>rfl
attribute [simp] T.nrm_cells T.frz_cells T.pure_cells zrO
@[simp] theorem zC6 {S:AS} {b d:Nat} {t:T}:zE (S.frzTo b d) t.cells=some t.cells:=by
 have h1:S.frzTo b d (zf t.kids)=some (zf t.kids):=by cases d<;>exact zsK _ _
 rw [zu];simp only [zE,h1,zAT,Option.bind_some,Option.map_some]
@[simp] theorem zMi {S:AS} {b d:Nat} {l:List T}:S.frzTo b d (zf l)=some (zf l):=by cases d<;>exact zsK _ _
@[simp] theorem zEe {S:AS} {b d:Nat}:∀{l:List T},zE (zE (S.frzTo b d)) (l.map T.cells)=some (l.map T.cells)
 |[]=>rfl
 |t::l=>by simp only [List.map_cons,zE,zC6,zEe,Option.bind_some,Option.map_some]
def zS (l:List ByteArray):List (List AV):=l.map fun s=>[.sc (.string s)]
def ji (l:List Int):List (List AV):=l.map fun n=>[.sc (.int .i64 n)]
def zB (l:List ByteArray):AV:=lstN 1 (zS l)
def jA (l:List Int):AV:=lstN 1 (ji l)
theorem znk:∀l:List ByteArray,kq (zS l)=zS l
 |[]=>rfl
 |s::l=>by
  have:=znk l;unfold zS at this ⊢;rw [List.map_cons,kq,this];rfl
theorem ztQ:∀l:List Int,kq (ji l)=ji l
 |[]=>rfl
 |s::l=>by
  have:=ztQ l;unfold ji at this ⊢;rw [List.map_cons,kq,this];rfl
theorem zi1 (o:Nat -> Nat -> Nat -> Nat -> Option (List (List AV))):∀l:List ByteArray,qe o (zS l)=some (zS l)
 |[]=>rfl
 |s::l=>by
  have:=zi1 o l;unfold zS at this ⊢;rw [List.map_cons,qe,this];rfl
theorem zgb (o:Nat -> Nat -> Nat -> Nat -> Option (List (List AV))):∀l:List Int,qe o (ji l)=some (ji l)
 |[]=>rfl
 |s::l=>by
  have:=zgb o l;unfold ji at this ⊢;rw [List.map_cons,qe,this];rfl
theorem ztP:∀l:List ByteArray,qS (zS l)=true
 |[]=>rfl
 |s::l=>by
  have:=ztP l;unfold zS at this ⊢;rw [List.map_cons,qS,this];rfl
theorem zpJ:∀l:List Int,qS (ji l)=true
 |[]=>rfl
 |s::l=>by
  have:=zpJ l;unfold ji at this ⊢;rw [List.map_cons,qS,this];rfl
@[simp] theorem zjc (l:List ByteArray):(zS l).length=l.length:=by simp [zS]
@[simp] theorem zy7 (l:List Int):(ji l).length=l.length:=by simp [ji]
theorem zsx {z:Nat} {xs:List (List AV)} (h:kq xs=xs):(lstN z xs).nrm=lstN z xs:=by
 unfold lstN;rw [AV.nrm,h];unfold lstN;cases xs<;>rfl
theorem zgs {z:Nat} {xs:List (List AV)} {o:Nat -> Nat -> Nat -> Nat -> Option (List (List AV))} (h:qe o xs=some xs):(lstN z xs).frz o=some (lstN z xs):=by
 unfold lstN;rw [AV.frz,h];unfold lstN;cases xs<;>rfl
@[simp] theorem zo1 (l:List ByteArray):(zB l).nrm=zB l:=zsx (znk l)
@[simp] theorem zNx (l:List Int):(jA l).nrm=jA l:=zsx (ztQ l)
@[simp] theorem zNA {S:AS} {b d:Nat} {l:List ByteArray}:S.frzTo b d (zB l)=some (zB l):=by cases d<;>exact zgs (zi1 _ l)
@[simp] theorem zKN {S:AS} {b d:Nat} {l:List Int}:S.frzTo b d (jA l)=some (jA l):=by cases d<;>exact zgs (zgb _ l)
@[simp] theorem zJv {S:AS} {b d:Nat} {l:List ByteArray}:zE (zE (S.frzTo b d)) (zS l)=some (zS l):=by cases d<;>(rw [<- zi1 _ l,zho];rfl)
@[simp] theorem zKL {S:AS} {b d:Nat} {l:List Int}:zE (zE (S.frzTo b d)) (ji l)=some (ji l):=by cases d<;>(rw [<- zgb _ l,zho];rfl)
@[simp] theorem zLZ (o:Nat -> Nat -> Nat -> Nat -> Option (List (List AV))) (l:List ByteArray):(zB l).frz o=some (zB l):=zgs (zi1 o l)
@[simp] theorem zKO (o:Nat -> Nat -> Nat -> Nat -> Option (List (List AV))) (l:List Int):(jA l).frz o=some (jA l):=zgs (zgb o l)
@[simp] theorem zJ2 (l:List ByteArray):(zB l).pure=true:=by unfold zB lstN;simp [AV.pure,ztP]
@[simp] theorem zJm (l:List Int):(jA l).pure=true:=by unfold jA lstN;simp [AV.pure,zpJ]
@[simp] theorem zNu (l:List ByteArray):(zB l).isCell=true:=rfl
@[simp] theorem zLo (l:List Int):(jA l).isCell=true:=rfl
@[simp] theorem zMV (l:List ByteArray):(zB l).isReg=false:=rfl
@[simp] theorem zNr (l:List Int):(jA l).isReg=false:=rfl
@[simp] theorem zJP (l:List ByteArray):(zB l).cells=[zB l]:=rfl
@[simp] theorem zKQ (l:List Int):(jA l).cells=[jA l]:=rfl
@[simp] theorem zLk (l:List ByteArray):pev .lenL [zB l]=some (.sc (.int .i64 l.length)):=by unfold zB;rw [zkY,zjc]
@[simp] theorem zJe (l:List Int):pev .lenL [jA l]=some (.sc (.int .i64 l.length)):=by unfold jA;rw [zkY,zy7]
theorem zaV {l:List ByteArray} {i:Nat} {s:ByteArray} (h:l[i]?=some s):pev (.iaddr 1) [zB l,.sc (.int .i64 (i:Int))]=some (.iptr [.sc (.string s)]):=by
 unfold zB;rw [zsc (by omega)];simp [zS,h]
theorem zzc {l:List Int} {i:Nat} {s:Int} (h:l[i]?=some s):pev (.iaddr 1) [jA l,.sc (.int .i64 (i:Int))]=some (.iptr [.sc (.int .i64 s)]):=by
 unfold jA;rw [zsc (by omega)];simp [ji,h]
theorem zGv (S:AS) (z:Nat) (xs:List (List AV)):zv z S (lstN z xs)=some xs:=by
 cases xs<;>simp [zv,lstN]
theorem zj4 (S:AS) (z:Nat) (f:Bool) (xs:List (List AV)):zv z S (.lst z f xs)=some xs:=by simp [zv]
theorem zqz (S:AS) (l:List ByteArray):zv 1 S (zB l)=some (zS l):=zGv ..
theorem wd {S S':AS} {v:Value}:zW S (some (.sc v,S'))=some (.sc v,S):=by
 simp [zW,AS.frzTo,AV.frz,AV.pure]
mutual
def T.same:T -> T -> Bool
 | .mk k n l,.mk k' n' l'=>decide (k=k') && decide (n=n') && qv l l'
def qv:List T -> List T -> Bool
 |[],[]=>true
 |a::l,b::m=>a.same b && qv l m
 |_,_=>false
end
mutual
theorem T.same_iff:∀{a b:T},a.same b=true↔a=b
 | .mk k n l,.mk k' n' l'=>by
   simp only [T.same,Bool.and_eq_true,decide_eq_true_eq,T.mk.injEq,zhe,and_assoc]
theorem zhe:∀{l m:List T},qv l m=true↔l=m
 |[],[]=>by simp [qv]
 |[],_::_=>by simp [qv]
 |_::_,[]=>by simp [qv]
 |a::l,b::m=>by simp only [qv,Bool.and_eq_true,List.cons.injEq,T.same_iff,zhe]
end
mutual
def T.fits:T -> Prop
 | .mk _ _ l=>l.length <=4611686018427387904 /\ zbD l
def zbD:List T -> Prop
 |[]=>True
 |t::l=>t.fits /\ zbD l
end
theorem zpV:∀{l:List T},zbD l -> ∀t∈l,t.fits
 |[],_,t,h=>by cases h
 |a::l,h,t,ht=>by
  rcases List.mem_cons.1 ht with rfl|ht
  ·exact h.1
  ·exact zpV h.2 t ht
theorem T.fits_kids:∀{t:T},t.fits -> t.kids.length <=4611686018427387904 /\ ∀u∈t.kids,u.fits
 | .mk _ _ l,h=>⟨h.1,zpV h.2⟩
@[simp] theorem T.fits_mk {k:Int} {n:ByteArray} {l:List T}:(T.mk k n l).fits↔l.length <=4611686018427387904 /\ zbD l:=Iff.rfl
@[simp] theorem zJC:zbD []:=trivial
@[simp] theorem zJT {t:T} {l:List T}:zbD (t::l)↔t.fits /\ zbD l:=Iff.rfl
mutual
def T.nsz (b:Nat):T -> Prop
 | .mk _ n l=>n.size <=b /\ zdP b l
def zdP (b:Nat):List T -> Prop
 |[]=>True
 |t::l=>t.nsz b /\ zdP b l
end
@[simp] theorem T.nsz_mk {b:Nat} {k:Int} {n:ByteArray} {l:List T}:(T.mk k n l).nsz b↔n.size <=b /\ zdP b l:=Iff.rfl
@[simp] theorem zNn {b:Nat}:zdP b []:=trivial
@[simp] theorem zMY {b:Nat} {t:T} {l:List T}:zdP b (t::l)↔t.nsz b /\ zdP b l:=Iff.rfl
theorem T.same_def:∀(a b:T),a.same b=(decide (a.kind=b.kind) && decide (a.name=b.name) && qv a.kids b.kids)
 | .mk _ _ _,.mk _ _ _=>rfl
section
theorem zz7 {a b:T} {rg:Nat -> Option (List AV)} {S:AS} {ks:List Kn} (h2:rg 2=some a.cells) (h3:rg 3=some b.cells)
 (hl:a.kids.length=b.kids.length) (hb:a.kids.length <=4611686018427387904)
 (ih:∀t∈a.kids,∀u,call 61 [.agg t.cells,.agg u.cells] S=some (.sc (.bool (t.same u)),S))
 (hf:∀e,e 4=.sc (.bool false) -> fin [.tmp 4] (unw AA (some (.ret,st 48 e rg S)) ks)=some (.sc (.bool false),S))
 (hk:∀e,fin [.tmp 4] (unw AA (some (.exit 0,st 48 e rg S)) ks)=some (.sc (.bool true),S)):
 ∀(n i:Nat) (e:Nat -> AV) (tm:List Nat),n+i=a.kids.length -> tm=[4,6,28,29,30,31,32,33,34,35,36,37,38,39,40,41,42,43,44,45,46,47] -> e 2=.reg 2 0 -> e 3=.reg 3 0 -> e 5=.sc (.int .i64 i) ->
  fin [.tmp 4] (zA AA (.loop tm [] zcH) (st 48 e rg S) ks)=some (.sc (.bool (qv (a.kids.drop i) (b.kids.drop i))),S):=by
 intro n
 induction n with
 |zero=>
  intro i e tm hn htm h2' h3' h5;rw [vj];generalize hkk:Kn.loop tm [] zcH::ks=kk;have hc:¬(i:Int) < a.kids.length:=by omega
  simp [zcH,zk,htm,h2',h3',h5,h2,hc];rw [<- hkk];simp;rw [hk,List.drop_eq_nil_of_le (by omega),List.drop_eq_nil_of_le (by omega)];rfl
 |succ n ihn=>
  intro i e tm hn htm h2' h3' h5;rw [vj];generalize hkk:Kn.loop tm [] zcH::ks=kk;have hc:(i:Int) < a.kids.length:=by omega
  have hi:i < a.kids.length:=by omega
  have hi':i < b.kids.length:=by omega
  obtain ⟨t,ht⟩:∃t,a.kids[i]?=some t:=⟨a.kids[i],by simp [hi]⟩;obtain ⟨u,hu⟩:∃u,b.kids[i]?=some u:=⟨b.kids[i],by simp [hi']⟩;have hd:qv (a.kids.drop i) (b.kids.drop i)=(t.same u && qv (a.kids.drop (i+1)) (b.kids.drop (i+1))):=by
   obtain ⟨_,e1⟩:=List.getElem?_eq_some_iff.1 ht;obtain ⟨_,e2⟩:=List.getElem?_eq_some_iff.1 hu;rw [List.drop_eq_getElem_cons hi,List.drop_eq_getElem_cons hi',e1,e2];rfl
  have hs:=ih t (List.mem_of_getElem? ht) u;have w1:IntKind.i64.wrap ((i:Int)+1)=((i+1:Nat):Int):=w64 (by omega);rw [hd];cases hsm:t.same u with
  |false=>
   rw [hsm]at hs;simp [zcH,zk,htm,h2',h3',h5,h2,h3,hc,zI ht,zI hu,hs];rw [<- hkk];simp;exact hf _ (by simp [zk])
  |true=>
   rw [hsm]at hs;simp [zcH,zk,htm,h2',h3',h5,h2,h3,hc,zI ht,zI hu,hs,w1];rw [<- hkk,wV];exact ihn (i+1) _ tm (by omega) htm (by simp [zk,htm,h2']) (by simp [zk,htm,h3']) (by simp [zk])
theorem T.kid_lt {t:T}:∀{a:T},t∈a.kids -> sizeOf t < sizeOf a
 | .mk _ _ l,h=>by
   have:=List.sizeOf_lt_of_mem (show t∈l from h);simp only [T.mk.sizeOf_spec];omega
theorem zpG:∀(n:Nat) (a b:T) (S:AS),sizeOf a < n -> a.fits -> call 61 [.agg a.cells,.agg b.cells] S=some (.sc (.bool (a.same b)),S)
 |0,_,_,_,h,_=>by omega
 |n+1,a,b,S,hn,hfit=>by
  obtain ⟨hlen,hkids⟩:=T.fits_kids hfit;rw [zh a61 rfl (by simp) rfl];simp only [f61];rw [T.same_def];by_cases h1:a.kind=b.kind
  ·by_cases h2:a.name=b.name
   ·by_cases h3:a.kids.length=b.kids.length
    ·simp [zf9,zk,vd,h1,h2,h3];refine (congrArg (zW S) (zz7 (a:=a) (b:=b) (by simp [vd]) (by simp [vd]) h3 hlen
      (fun t ht u=>zpG n t u _ (by have:=T.kid_lt ht;omega) (hkids t ht)) ?_ ?_ a.kids.length 0 _ _ (by omega) rfl (by simp [zk]) (by simp [zk]) (by simp [zk]))).trans ?_
     ·intro e he;simp [he,y6,jc]
     ·intro e;simp [zk,y6,jc]
     ·simp [wd]
    ·have hs:qv a.kids b.kids=false:=by
      rw [Bool.eq_false_iff];intro h;exact h3 (by rw [zhe.1 h])
     have h3':¬(a.kids.length:Int)=b.kids.length:=by omega
     simp [zf9,zk,vd,h1,h2,h3,h3',hs,y6,jc,wd]
   ·simp [zf9,zk,vd,h1,h2,y6,jc,wd]
  ·simp [zf9,zk,vd,h1,y6,jc,wd]
@[simp] theorem s61 {a b:T} {S:AS} (h:a.fits):call 61 [.agg a.cells,.agg b.cells] S=some (.sc (.bool (a.same b)),S):=zpG _ a b S (Nat.lt_succ_self _) h
@[simp] theorem T.same_self (a:T):a.same a=true:=T.same_iff.2 rfl
end
theorem zlz {S:AS} {least d:Nat}:∀{l:List T},zE (zE (S.frzTo least d)) (l.map T.cells)=some (l.map T.cells)
 |[]=>rfl
 |t::l=>by
  have h:zE (S.frzTo least d) t.cells=some t.cells:=by
   rw [zu];simp only [zE,zIX];cases d<;>rfl
  simp only [List.map_cons,zE,h,zlz,Option.bind_some,Option.map_some]
theorem zsJ {S S':AS} {t:T}:zW S (some (.agg t.cells,S'))=some (.agg t.cells,S):=by
 simp [zW,zn4,ziF]
theorem zIM {S S':AS} {k:Int} {n:ByteArray} {z:Nat} {f:Bool} {l:List T} (hz:l≠[] -> z=3):zW S (some (.agg [.sc (.int .i64 k),.sc (.string n),.lst z f (l.map T.cells)],S'))=some (.agg (T.mk k n l).cells,S):=by
 have e:(T.mk k n l).cells=[.sc (.int .i64 k),.sc (.string n),zf l]:=zu _;have h:S'.frzTo S.n 2 (.agg [.sc (.int .i64 k),.sc (.string n),.lst z f (l.map T.cells)])=some (.agg (T.mk k n l).cells):=by
  rw [e];simp only [AS.frzTo,AV.frz,jZ,Option.bind_some];rw [<- kJ,zf0];simp only [Option.map_some,Option.bind_some,zf,<- kJ];cases l with
  |nil=>rfl
  |cons t l=>rw [hz (by simp)]
 simp only [zW,Option.bind_some,h,ziF,if_true]
theorem zmj {S S':AS} {k:Int} {n:ByteArray} {id off len:Nat} {lim:Option Nat} {l:List T} (hs:S'.slice S.n id 3 off len=some (l.map T.cells)):zW S (some (.agg [.sc (.int .i64 k),.sc (.string n),.arr id 3 off len lim],S'))=some (.agg (T.mk k n l).cells,S):=by
 have e:(T.mk k n l).cells=[.sc (.int .i64 k),.sc (.string n),zf l]:=zu _;have h:S'.frzTo S.n 2 (.agg [.sc (.int .i64 k),.sc (.string n),.arr id 3 off len lim])=some (.agg (T.mk k n l).cells):=by
  rw [e];simp only [AS.frzTo,AV.frz,jZ,Option.bind_some,hs,Option.map_some];have:=@zlz S' S.n 1 l;simp only [AS.frzTo,AV.frz]at this;rw [this];rfl
 simp only [zW,Option.bind_some,h,ziF,if_true]
section
variable {S:AS}
@[simp] theorem zKa (s:ByteArray):call 161 [.sc (.string s)] S=some (.agg (T.mk 1 s []).cells,S):=by
 rw [zh zyC rfl (by simp) rfl];have:=@zIM S {S with ro:=S.n} 1 s 0 true [] (by simp);simp only [List.map_nil]at this;simp [zhF,zsS,zk,vd,setCells,y6,jc,vm,this]
def eqB (s:ByteArray):ByteArray:=⟨#[61]⟩++s
def yF (s:ByteArray):T:=.mk 1 (eqB s) []
theorem zt5 {s:ByteArray} (hs:s.size <=4611686018427387904):pev (.bin .add) [AV.s ⟨#[61]⟩,.sc (.string s)]=some (.sc (.string (eqB s))):=by
 have:¬((((⟨#[61]⟩:ByteArray).size+s.size:Nat):Int) > IntKind.i64.max):=by
  have h1:IntKind.i64.max=9223372036854775807:=by decide
  have h2:(⟨#[61]⟩:ByteArray).size=1:=rfl;omega
 simp only [pev,kS,if_neg this,Option.map_some];rfl
@[simp] theorem s65 (s:ByteArray) (hs:s.size <=4611686018427387904):call 65 [.sc (.string s)] S=some (.agg (yF s).cells,S):=by
 rw [zh a65 rfl (by simp) rfl];simp [f65,znr,zk,vd,setCells,y6,jc,zsJ,zt5 hs,yF]
end
section
end
theorem zsE:∀{a b:List UInt8},Go.Op.bytesLess a b=decide (a < b)
 |[],[]=>by simp [Go.Op.bytesLess]
 |[],b::bs=>by simp [Go.Op.bytesLess]
 |a::as,[]=>by simp [Go.Op.bytesLess]
 |a::as,b::bs=>by
  have ih:=@zsE as bs;simp only [Go.Op.bytesLess,ih,List.cons_lt_cons_iff];by_cases h1:a < b
  ·simp [h1]
  ·by_cases h2:a=b
   ·subst h2;simp
   ·simp [h1,h2]
theorem kw {x y:ByteArray} (h:x.data.toList=y.data.toList):x=y:=by
 obtain ⟨⟨x⟩⟩:=x;obtain ⟨⟨y⟩⟩:=y;simp at h;rw [h]
theorem zir {x y:ByteArray}:sLt x y=decide (x.data.toList < y.data.toList):=by
 unfold sLt;show Go.Op.bytesLess _ _=_;rw [zsE,ByteArray.toList_eq,ByteArray.toList_eq]
def jB (d:Nat):ByteArray:=⟨#[UInt8.ofNat (48+d)]⟩
theorem zhc {n:Nat}:pev (.bin .rem) [.sc (.int .i64 (n:Int)),.i 10]=some (.sc (.int .i64 ((n % 10:Nat):Int))):=by
 have:(n:Int).tmod 10=((n % 10:Nat):Int):=by
  rw [Int.tmod_eq_emod_of_nonneg (by omega)];omega
 simp only [pev,vV,this];rfl
theorem zgU {n:Nat} (h:n <=9223372036854775807):pev (.bin .quo) [.sc (.int .i64 (n:Int)),.i 10]=some (.sc (.int .i64 ((n / 10:Nat):Int))):=by
 have:IntKind.i64.wrap ((n:Int).tdiv 10)=((n / 10:Nat):Int):=by
  rw [show (n:Int).tdiv 10=((n / 10:Nat):Int) by
   rw [Int.tdiv_eq_ediv_of_nonneg (by omega)];omega]
  exact w64 (by omega)
 simp only [pev,vV,this];rfl
theorem zgP {d:Nat} (h:d < 10):IntKind.u8.wrap (IntKind.i64.wrap (48+(d:Int)))=((48+d:Nat):Int):=by
 rw [w64 (by omega)]
 match d,h with
 |0,_|1,_|2,_|3,_|4,_|5,_|6,_|7,_|8,_|9,_=>rfl
theorem zju {d:Nat}:pev .bytesStr [.lst 1 true [[.sc (.int .u8 ((48+d:Nat):Int))]]]=some (.sc (.string (jB d))):=by
 simp only [pev,bytesOf,Option.map_some,Int.toNat_natCast];rfl
def zV (n:Nat):ByteArray:=⟨(Lib.decDigits n).toArray⟩
theorem zi4 {x y:List UInt8}:(⟨x.toArray⟩:ByteArray)++⟨y.toArray⟩=⟨(x++y).toArray⟩:=by
 apply kw;simp [ByteArray.data_append]
theorem zda {x y z:ByteArray}:x++y++z=x++(y++z):=by
 apply kw;simp [ByteArray.data_append]
theorem zen {n:Nat} (h:10 <=n):zV n=zV (n / 10)++jB (n % 10):=by
 unfold zV jB;rw [Lib.decDigits,dif_neg (by omega)];exact (zi4 (x:=Lib.decDigits (n / 10)) (y:=[UInt8.ofNat (48+n % 10)])).symm
theorem zce {n:Nat} (h:n < 10):zV n=jB n:=by
 unfold zV jB;rw [Lib.decDigits_one h]
theorem zjL (n:Nat):(zV n).size <=n / 4+1:=by
 induction n using Nat.strongRecOn with
 |_ n ih=>
  by_cases h:n < 10
  ·rw [zce h];show 1 <=_;omega
  ·rw [zen (by omega),ByteArray.size_append];have:=ih (n / 10) (by omega);have h1:(jB (n % 10)).size=1:=rfl;omega
def ky (n k:Nat):ByteArray:=if n=0 /\ 0 < k then ⟨#[]⟩ else zV n
theorem zDI {n k:Nat} (h:0 < n \/ k=0):ky n k=ky (n / 10) (k+1)++jB (n % 10):=by
 have h1:ky n k=zV n:=by unfold ky;rw [if_neg (by omega)]
 rw [h1];by_cases hn:n < 10
 ·have h2:ky (n / 10) (k+1)=⟨#[]⟩:=by unfold ky;rw [if_pos (by omega)]
  rw [h2,zce hn,Nat.mod_eq_of_lt hn];exact (zi4 (x:=[]) (y:=[UInt8.ofNat (48+n)])).symm
 ·have h2:ky (n / 10) (k+1)=zV (n / 10):=by unfold ky;rw [if_neg (by omega)]
  rw [h2,zen (by omega)]
theorem znN {n k:Nat} {s:ByteArray} (h:n=0 /\ 0 < k):ky n k++s=s:=by
 unfold ky;rw [if_pos h];apply kw;simp [ByteArray.data_append]
section
variable {S:AS}
theorem zwX {ks:List Kn} {rg:Nat -> Option (List AV)} {r:Option (AV×AS)} {R:ByteArray} (hk:∀e,e 3=.sc (.string R) -> fin [.tmp 2] (unw AA (some (.exit 0,st 28 e rg S)) ks)=r):
 ∀(m k n:Nat) (s:ByteArray) (e:Nat -> AV) (tm:List Nat),m+k=20 -> n < 10 ^ m -> n <=9223372036854775807 -> (0 < m \/ n=0 /\ 0 < k) -> s.size <=30 * k -> ky n k++s=R -> tm=[5,6,7,8,9,10,11,12,13,14,15,16,17,18,19,20,21,22,23,24,25,26] ->
  e 0=.sc (.int .i64 n) -> e 3=.sc (.string s) -> e 4=.sc (.int .i64 k) -> fin [.tmp 2] (zA AA (.loop tm [] za7) (st 28 e rg S) ks)=r:=by
 intro m
 induction m with
 |zero=>
  intro k n s e tm hm hn hb hp hs hR htm h0 h3 h4;rw [vj];generalize hkk:Kn.loop tm [] za7::ks=kk;have hc:¬(k:Int) < 20:=by omega
  simp [za7,zk,htm,h0,h4,hc];rw [<- hkk];simp;exact hk _ (by simp [zk,h3];rw [<- hR,znN (by omega)])
 |succ m ih=>
  intro k n s e tm hm hn hb hp hs hR htm h0 h3 h4;rw [vj];generalize hkk:Kn.loop tm [] za7::ks=kk;have hc:(k:Int) < 20:=by omega
  have hd:n % 10 < 10:=Nat.mod_lt _ (by omega);by_cases hgo:0 < n \/ k=0
  ·have w1:IntKind.i64.wrap ((k:Int)+1)=((k+1:Nat):Int):=w64 (by omega);have hsz:(jB (n % 10)).size=1:=rfl;have e1:=yS (x:=jB (n % 10)) (y:=s) (by omega);have hcond:(decide ((k:Int)=0)=true \/ (0:Int) < n):=by
    rcases hgo with h|h
    ·right;omega
    ·left;simp [h]
   have fin':∀e':Nat -> AV,e' 0=.sc (.int .i64 ((n / 10:Nat):Int)) -> e' 3=.sc (.string (jB (n % 10)++s)) -> e' 4=.sc (.int .i64 ((k+1:Nat):Int)) -> fin [.tmp 2] (unw AA (some (.normal,st 28 e' rg S)) kk)=r:=by
    intro e' g0 g3 g4;rw [<- hkk,wV];refine ih (k+1) (n / 10) _ e' tm (by omega) ?_ (by omega) ?_ ?_ ?_ htm g0 g3 g4
    ·rw [Nat.pow_succ]at hn;omega
    ·by_cases hm0:0 < m
     ·exact .inl hm0
     ·have:m=0:=by omega
      subst this;simp at hn;right;omega
    ·have:(jB (n % 10)++s).size=(jB (n % 10)).size+s.size:=ByteArray.size_append;omega
    ·rw [<- hR,zDI hgo,zda]
   have hbyte:pev .bytesStr [AV.lst 1 true [[.sc (.int .u8 (IntKind.u8.wrap (IntKind.i64.wrap (48+(n:Int) % 10))))]]]=some (.sc (.string (jB (n % 10)))):=by
    rw [show ((n:Int) % 10)=((n % 10:Nat):Int) by omega,zgP hd];exact zju
   have w2:=w1;simp only [Int.natCast_add,Int.natCast_one]at w2;by_cases hk0:(k:Int)=0
   ·simp [za7,zk,htm,h0,h3,h4,hc,hk0,zhc,zgU hb,hbyte,zw,e1];exact fin' _ (by simp [zk]) (by simp [zk]) (by simp [zk,hk0];decide)
   ·have h':(0:Int) < (n:Int):=by omega
    have hk1:¬k=0:=by omega
    have hn1:0 < n:=by omega
    simp [za7,zk,htm,h0,h3,h4,hc,hk0,hk1,hn1,h',zhc,zgU hb,hbyte,zw,e1,w2];exact fin' _ (by simp [zk]) (by simp [zk]) (by simp [zk])
  ·have hn0:n=0:=by omega
   have hk0:¬(k:Int)=0:=by omega
   subst hn0;have hk1:¬k=0:=by omega
   simp [za7,zk,htm,h0,h4,hc,hk0,hk1];rw [<- hkk];simp;exact hk _ (by simp [zk,h3];rw [<- hR,znN (by omega)])
theorem zpr {n:Nat} (hn:n <=9223372036854775807):call 249 [.sc (.int .i64 (n:Int))] S=some (.sc (.string (zV n)),S):=by
 rw [zh zxA rfl (by simp) rfl];simp only [zgT];simp [zqm,zk];have hR:ky n 0++(⟨#[]⟩:ByteArray)=zV n:=by
  unfold ky;rw [if_neg (by omega)];apply kw;simp [ByteArray.data_append]
 refine (congrArg (zW S) (zwX (R:=zV n) (r:=some (.sc (.string (zV n)),{S with ro:=S.n})) ?_ 20 0 n ⟨#[]⟩ _ _ (by omega) (by omega) hn (by omega) (by decide) hR rfl (by simp [zk]) (by simp [zk]) (by simp [zk]))).trans ?_
 ·intro e he;simp [zk,he,y6,jc]
 ·simp [wd]
theorem zcX {n:Int} (hl: -9223372036854775808 < n) (hh:n <=9223372036854775807):call 139 [.sc (.int .i64 n)] S=some (.sc (.string (zq n)),S):=by
 rw [zh zIW rfl (by simp) rfl];simp only [zjx];by_cases hn:n < 0
 ·obtain ⟨m,hm⟩:∃m:Nat,-n=m:=⟨n.natAbs,by omega⟩;have w1:IntKind.i64.wrap (0 - n)=(m:Int):=by rw [w64 (by omega)];omega
  have w2:IntKind.i64.wrap (-n)=(m:Int):=by rw [w64 (by omega)];omega
  have hlen:(zV m).size <=m / 4+1:=zjL m;have e1:=yS (x:=⟨#[45]⟩) (y:=zV m) (by have:(⟨#[45]⟩:ByteArray).size=1:=rfl;omega);have e2:(⟨#[45]⟩:ByteArray)++zV m=zq n:=by
   unfold zq Lib.itoa zV;rw [if_pos hn,show n.natAbs=m by omega];exact zi4 (x:=[45]) (y:=Lib.decDigits m)
  rw [e2]at e1;simp [zmb,zk,hn,w1,w2,zpr (n:=m) (by omega),e1,y6,jc,wd]
 ·obtain ⟨m,rfl⟩:∃m:Nat,n=m:=⟨n.toNat,by omega⟩;have e2:zV m=zq (m:Int):=by
   unfold zq Lib.itoa zV;rw [if_neg hn];rfl
  simp [zmb,zk,hn,zpr (n:=m) (by omega),e2,y6,jc,wd]
end
section
variable {S:AS}
theorem zBT (n:Int) (hl: -9223372036854775808 <=n) (hh:n <=9223372036854775807):(zq n).size <=4611686018427387000:=by
 unfold zq Lib.itoa;split
 ·have:=zjL n.natAbs;have h2:(⟨(45::Lib.decDigits n.natAbs).toArray⟩:ByteArray).size=(zV n.natAbs).size+1:=by
   unfold zV;show (List.toArray _).size=(List.toArray _).size+1;simp
  omega
 ·have:=zjL n.toNat;unfold zV at this;omega
def qb (n:Int):T:=yF (zq n)
theorem s67 {n:Int} (hl: -9223372036854775808 < n) (hh:n <=9223372036854775807):call 67 [.sc (.int .i64 n)] S=some (.agg (qb n).cells,S):=by
 have hs:=zBT n (by omega) hh;rw [zh a67 rfl (by simp) rfl];simp [f67,zt0,zk,vd,setCells,y6,jc,zcX hl hh,s65 (zq n) (by omega),zsJ,qb]
end
theorem zhB:∀x:AV,x.nrm.isReg=x.isReg
 | .sc _| .junk| .opq| .reg _ _| .ptr _ _ _| .iptr _| .arr _ _ _ _ _| .agg _| .tup _| .fn _ _ _| .mp _=>rfl
 | .lst _ _ _=>by rw [AV.nrm];rfl
@[simp] theorem zIR {z:Nat} {S:AS} {r:Nat} {x:AV}:zv z ⟨S.heap,S.n,r⟩ x=zv z S x:=by cases x<;>rfl
@[simp] theorem zK9 {S:AS} {r least id sz off n:Nat}:AS.slice ⟨S.heap,S.n,r⟩ least id sz off n=S.slice least id sz off n:=rfl
structure Old (S S':AS):Prop where
 ro:S'.ro=S.ro
 n:S.n <=S'.n
 heap:∀id,id < S.n -> S'.heap id=S.heap id
theorem Old.refl (S:AS):Old S S:=⟨rfl,Nat.le_refl _,fun _ _=>rfl⟩
theorem Old.trans {S S' S'':AS} (h:Old S S') (h':Old S' S''):Old S S'':=⟨h'.ro.trans h.ro,Nat.le_trans h.n h'.n,fun id e=>(h'.heap id (Nat.lt_of_lt_of_le e h.n)).trans (h.heap id e)⟩
theorem zf4 {S:AS} {o:jb}:Old S (S.new o):=⟨rfl,Nat.le_succ _,fun id h=>if_neg (by omega)⟩
theorem ztl {S S':AS} {id:Nat} {o:Option jb} (h:Old S S') (hid:S.n <=id):Old S (S'.set id o):=⟨h.ro,h.n,fun j hj=>by
 show (if j=id then _ else S'.heap j)=_;rw [if_neg (by omega)];exact h.heap j hj⟩
theorem wD {S:AS} {least id sz:Nat} {rs:List (List AV)} (h:S.heap id=some (.rows sz rs)) (hl:least <=id):S.slice least id sz 0 rs.length=some rs:=by
 unfold AS.slice;rw [if_pos hl,h];simp
theorem jw {S:AS} {o:jb}:(S.new o).heap S.n=some o:=if_pos rfl
section
variable {S:AS}
theorem zkK {x:AV} {S:AS} (hr:x.isReg=false):call 256 [x] S=qG 3 48 [x] S:=zfx zzN (by simp [hr])
theorem zlb {k:Int} {n:ByteArray} {x:AV} {l:List T} (hr:x.isReg=false) (hx:zv 3 S x.nrm=some (l.map T.cells)) (hl:l.length * 48 <=140737488355328):
 call 228 [.sc (.int .i64 k),.sc (.string n),x] S=some (.agg (T.mk k n l).cells,S):=by
 have hn:x.nrm.isReg=false:=by rw [zhB];exact hr
 rw [wR zzA (args':=[.sc (.int .i64 k),.sc (.string n),x.nrm]) (by simp [hr]) (by simp) rfl];have e:=@zmj S (AS.new ⟨S.heap,S.n,S.n⟩ (.rows 3 (l.map T.cells))) k n S.n 0 l.length none l (by
  have:=@wD (AS.new ⟨S.heap,S.n,S.n⟩ (.rows 3 (l.map T.cells))) S.n S.n 3 _ jw (Nat.le_refl _);simpa using this)
 generalize hq:x.nrm=q at hn hx;have e1:qG 3 48 [q] ⟨S.heap,S.n,S.n⟩=some (.arr S.n 3 0 l.length none,AS.new ⟨S.heap,S.n,S.n⟩ (.rows 3 (l.map T.cells))):=by
  simp [qG,hx,hl]
 simp only [zhT];simp [-zg,zm4,zkK hn,hn,e1];simpa [-zg] using e
def zJ (s:ByteArray):T:=.mk 1 s []
def ze (s:ByteArray):T:=.mk 2 s []
def zO (l:List T):T:=.mk 3 ⟨#[]⟩ l
@[simp] theorem zNj {k:Int} {n:ByteArray}:call 228 [.sc (.int .i64 k),.sc (.string n),.lst 0 true []] S=some (.agg (T.mk k n []).cells,S):=
 zlb (l:=[]) rfl (by simp [AV.nrm,kq,lstN,zv]) (by simp)
theorem znW {k:Int} {n:ByteArray} {f:Bool} (l:List T) (h:l.length * 48 <=140737488355328):call 228 [.sc (.int .i64 k),.sc (.string n),.lst 3 f (l.map T.cells)] S=some (.agg (T.mk k n l).cells,S):=
 zlb rfl (by rw [zfH _ _ _ (fun _=>rfl)];exact zd5 S l) h
@[simp] theorem zMA {k:Int} {n:ByteArray} {f:Bool} {a:T}:call 228 [.sc (.int .i64 k),.sc (.string n),.lst 3 f [a.cells]] S=some (.agg (T.mk k n [a]).cells,S):=znW [a] (by simp)
@[simp] theorem zJJ {k:Int} {n:ByteArray} {f:Bool} {a b:T}:call 228 [.sc (.int .i64 k),.sc (.string n),.lst 3 f [a.cells,b.cells]] S=some (.agg (T.mk k n [a,b]).cells,S):=znW [a,b] (by simp)
@[simp] theorem zJF (s:ByteArray):call 192 [.sc (.string s)] S=some (.agg (zJ s).cells,S):=by
 rw [zh zAb rfl (by simp) rfl];simp [zh3,zqu,zJ]
theorem zzd {x:AV} {l:List T} (hr:x.isReg=false) (hx:zv 3 S x.nrm=some (l.map T.cells)) (hn:x.nrm.nrm=x.nrm) (hl:l.length * 48 <=140737488355328):call 126 [x] S=some (.agg (zO l).cells,S):=by
 have h2:x.nrm.isReg=false:=by rw [zhB];exact hr
 rw [wR zvB (args':=[x.nrm]) (by simp [hr]) (by simp) rfl];have e:∀S':AS,zv 3 S' x.nrm=some (l.map T.cells) -> call 228 [.sc (.int .i64 3),.sc (.string ⟨#[]⟩),x.nrm] S'=some (.agg (T.mk 3 ⟨#[]⟩ l).cells,S'):=fun S' h=>zlb h2 (by rw [hn];exact h) hl;have e:=e ⟨S.heap,S.n,S.n⟩ (by rw [zIR];exact hx);generalize x.nrm=q at e h2;simp [zgQ,zsP,e,zO]
attribute [simp] qS
@[simp] theorem zNw {z:Nat} {xs:List (List AV)} {o:Nat -> Nat -> Nat -> Nat -> Option (List (List AV))}:(lstN z xs).frz o=(qe o xs).map (lstN z):=by
 cases xs with
 |nil=>rfl
 |cons x xs=>unfold lstN;rw [AV.frz];rfl
@[simp] theorem zKM {z:Nat} {xs:List (List AV)}:(lstN z xs).pure=qS xs:=by unfold lstN;rw [AV.pure]
def jm (a b:T):T:=.mk 4 ⟨#[]⟩ [a,b]
def z8 (a:T):T:=.mk 6 ⟨#[]⟩ [a]
def jr (a:T) (n:ByteArray):T:=.mk 7 n [a]
def zZ (a:T):T:=.mk 8 ⟨#[]⟩ [a]
def ww (a b:T):T:=.mk 10 ⟨#[]⟩ [a,b]
def zj (s:ByteArray) (l:List T):T:=zO (zJ s::l)
@[simp] theorem zJq (s:ByteArray):call 130 [.sc (.string s)] S=some (.agg (ze s).cells,S):=by
 rw [zh zHo rfl (by simp) rfl];simp [zil,zn5,ze,T.cells,yr,lstN]
end
section
variable {S:AS}
@[simp] theorem zLy {a b:T}:call 128 [.agg a.cells,.agg b.cells] S=some (.agg (jm a b).cells,S):=by
 rw [zh zzG rfl (by simp) rfl];simp [zgw,zqh,jm,T.cells,yr]
@[simp] theorem zKd {a:T}:call 124 [.agg a.cells] S=some (.agg (z8 a).cells,S):=by
 rw [zh zE0 rfl (by simp) rfl];simp [zg6,zqo,z8,T.cells,yr]
@[simp] theorem zKD {a b:T}:call 125 [.agg a.cells,.agg b.cells] S=some (.agg (ww a b).cells,S):=by
 rw [zh zCV rfl (by simp) rfl];simp [zif,zpd,ww,T.cells,yr]
end
def knd (k:Int):Bool:=decide (1 <=k /\ k <=10)
def nmd (k:Int):Bool:=decide (k=1 \/ k=2 \/ k=7)
def kdn (k:Int):Int:=if k=3 then -1 else if k=1 \/ k=2 then 0 else if k=6 \/ k=7 \/ k=8 then 1 else 2
def ltr (k:Int):ByteArray:=⟨#[if k=1 then 100 else if k=2 then 97 else if k=3 then 112 else if k=4 then 101 else if k=5 then 109 else if k=6 then 104 else if k=7 then 107 else if k=8 then 117 else if k=9 then 115 else 120]⟩
def T.one (t:T):Bool:=knd t.kind && (nmd t.kind !=decide (t.name=⟨#[]⟩)) && (decide (kdn t.kind < 0) ||decide ((t.kids.length:Int)=kdn t.kind))
def T.shp:Nat -> T -> Bool
 |0,_=>false
 |d+1,t=>t.one && t.kids.all (T.shp d)
theorem zcz {k:Int} (h:knd k=true):k=1 \/ k=2 \/ k=3 \/ k=4 \/ k=5 \/ k=6 \/ k=7 \/ k=8 \/ k=9 \/ k=10:=by
 simp only [knd,decide_eq_true_eq]at h;omega
theorem zfl {k:Int} (h:knd k=true):pev (.iaddrA 3 11) [.iptr zh8,.sc (.int .i64 k)]=some (.iptr (.sc (.string (ltr k))::.sc (.int .i64 (kdn k))::.sc (.bool (nmd k))::zh8.drop (k.toNat * 3+3))):=by
 rcases zcz h with rfl|rfl|rfl|rfl|rfl|rfl|rfl|rfl|rfl|rfl<;>rfl
theorem w0:AA.glob 0=some (.iptr zh8):=rfl
section
variable {S:AS}
@[simp] theorem zL2 {t:T}:call 319 [.agg t.cells] S=some (.sc (.bool (knd t.kind)),S):=by
 rw [zh zIj rfl (by simp) rfl];by_cases h:1 <=t.kind
 ·simp [f319,zmu,knd,h]
 ·simp [f319,zmu,knd,h]
@[simp] theorem zLq {v:Value}:pev .ibox [.sc v]=some (.iptr [.sc v]):=rfl
theorem zCg {f:AV} {k:Nat} {c:List AV} {l:List T} {g:T -> Bool} (hf:f=.fn k [] c) (hl:l.length <=4611686018427387904)
 (hg:∀t∈l,∀S',call k (.agg t.cells::c) S'=some (.sc (.bool (g t)),S')):call 408 [zf l,f] S=some (.sc (.int .i64 (match l.findIdx? g with|some i=>i|none=> -1)),S):=by
 have hr:f.isReg=false:=by rw [hf];rfl
 rw [ym zo9 (by simp [hr]) rfl];simp only [zfu];simp [zmv,-zg,hr];refine jY (α:=Nat) (R:=fun _ r=>r=some (.sc (.int .i64 (match l.findIdx? g with|some i=>i|none=> -1)),S)) (fun i e rg S'=>i <=l.length /\ S'=S /\ e 0=zf l /\ e 1=f /\ e 7=.sc (.int .i64 (l.length:Nat)) /\ e 8=.sc (.int .i64 (i:Nat)) /\ (∀t∈l.take i,g t=false)) (fun i=>l.length - i) ?_ 0 _ _ _ ?_;rotate_left
 ·exact ⟨by omega,rfl,by simp,by simp,by simp,by simp,fun t ht=>by simp at ht⟩
 intro kk hkk i e rg S' ⟨hi,hS,h0,h1,h7,h8,hno⟩ ih;subst hS;by_cases hc:i < l.length
 ·have hc':(i:Int) < l.length:=by omega
  obtain ⟨t,ht⟩:∃t,l[i]?=some t:=⟨l[i],by simp [hc]⟩;have hgt:=hg t (List.mem_of_getElem? ht);have w1:IntKind.i64.wrap ((i:Int)+1)=((i+1:Nat):Int):=w64 (by omega);have hci:zeK AA=zeK AA:=rfl;cases hb:g t with
  |true=>
   rw [hb]at hgt;simp [zcB,h0,h1,h7,h8,hc',zI ht,hf,hgt,-zg];have hfi:l.findIdx? g=some i:=by
    rw [List.findIdx?_eq_some_iff_getElem];obtain ⟨hh,e1⟩:=List.getElem?_eq_some_iff.1 ht;refine ⟨hh,by rw [e1];exact hb,fun j hj=>?_⟩;have:=hno (l[j]'(by omega)) (by rw [List.mem_take_iff_getElem];exact ⟨j,by omega,rfl⟩);simp [this]
   rw [hkk];simp [hfi]
  |false=>
   rw [hb]at hgt;simp [zcB,h0,h1,h7,h8,hc',zI ht,hf,hgt,w1,-zg];refine ih (i+1) _ _ _ (by omega) (fun _ h=>h) ?_;refine ⟨by omega,rfl,by simp [h0],by simp [h1,hf],by simp [h7],by simp,fun u hu=>?_⟩;rw [List.take_add_one,ht]at hu;rcases List.mem_append.1 hu with hu|hu
   ·exact hno u hu
   ·simp at hu;rw [hu];exact hb
 ·have hc':¬(i:Int) < l.length:=by omega
  simp [zcB,h0,h1,h7,h8,hc',-zg];have hfi:l.findIdx? g=none:=by
   rw [List.findIdx?_eq_none_iff];intro t ht;exact hno t (by rw [List.take_of_length_le (by omega)];exact ht)
  rw [hkk];simp [hfi]
theorem zn6 {f:AV} {k:Nat} {c:List AV} {l:List T} {g:T -> Bool} (hf:f=.fn k [] c) (hl:l.length <=4611686018427387904)
 (hg:∀t∈l,∀S',call k (.agg t.cells::c) S'=some (.sc (.bool (g t)),S')):call 320 [zf l,f] S=some (.sc (.bool (l.any g)),S):=by
 have hr:f.isReg=false:=by rw [hf];rfl
 rw [ym zqb (by simp [hr]) rfl];have e:=fun S'=>@zCg S' f k c l g hf hl hg;simp [f320,zmP,e,hr];cases hfi:l.findIdx? g with
 |none=>
  rw [List.findIdx?_eq_none_iff]at hfi;have:l.any g=false:=by rw [List.any_eq_false];intro x hx;rw [hfi x hx];simp
  simp [this]
 |some i=>
  rw [List.findIdx?_eq_some_iff_getElem]at hfi;obtain ⟨h1,h2,_⟩:=hfi;have:l.any g=true:=List.any_eq_true.2 ⟨_,List.getElem_mem h1,h2⟩;simp [this]
theorem zj8 {α:Type} {g:α -> Bool} {l:List α}:(!(l.any fun x=>!(g x)))=l.all g:=by
 induction l with
 |nil=>rfl
 |cons x l ih=>rw [List.any_cons,List.all_cons,<- ih];cases g x<;>simp
theorem zIv {d:Nat} {t:T} (hd:d <=1000) (h:∀S,call 221 [.agg t.cells,.sc (.int .i64 (d:Nat))] S=some (.sc (.bool (t.shp d)),S)):
 call 321 [.agg t.cells,.iptr [.sc (.int .i64 ((d:Int)+1))]] S=some (.sc (.bool (!(t.shp d))),S):=by
 rw [zh zCJ rfl (by simp) rfl];have w1:IntKind.i64.wrap (d:Int)=(d:Int):=w64 (by omega);simp [f321,zsl,h,w1]
theorem zr9:∀{d:Nat} {t:T} {S:AS},d <=1000 -> t.fits -> call 221 [.agg t.cells,.sc (.int .i64 (d:Nat))] S=some (.sc (.bool (t.shp d)),S)
 |0,t,S,_,_=>by
  rw [zh znB rfl (by simp) rfl];simp [zau,zcf,T.shp]
 |d+1,t,S,hd,hf=>by
  obtain ⟨hl,hk⟩:=T.fits_kids hf;rw [zh znB rfl (by simp) rfl];have h0:¬((d:Int)+1=0):=by omega
  have e320:=fun S'=>@zn6 S' (.fn 321 [] [.iptr [.sc (.int .i64 ((d:Int)+1))]]) 321 [.iptr [.sc (.int .i64 ((d:Int)+1))]] t.kids (fun t=>!(t.shp d)) rfl hl (fun u hu S''=>zIv (by omega) (fun S=>zr9 (by omega) (hk u hu)));rw [T.shp,<- zj8];unfold T.one;simp only [bne];by_cases h1:knd t.kind=true
  ·by_cases h2:(nmd t.kind==decide (t.name=⟨#[]⟩))=true
   ·simp [zau,zcf,h0,h1,w0,zfl h1,h2]
   ·by_cases h3:0 <=kdn t.kind
    ·by_cases h4:(t.kids.length:Int)=kdn t.kind
     ·simp [zau,zcf,h0,h1,w0,zfl h1,h2,h3,h4,e320]
     ·have h5:¬kdn t.kind < 0:=by omega
      simp [zau,zcf,h0,h1,w0,zfl h1,h2,h3,h4,h5,e320]
    ·have h5:kdn t.kind < 0:=by omega
     simp [zau,zcf,h0,h1,w0,zfl h1,h2,h3,h5,e320]
  ·simp [zau,zcf,h0,h1]
end
@[simp] theorem zJz {z:Nat} {xs:List (List AV)}:pev .cap [.lst z true xs]=some (.sc (.int .i64 xs.length)):=rfl
@[simp] theorem zJA {z:Nat}:pev (.sliceL z false true false) [.lst 0 true [],.sc (.int .i64 0)]=some (.lst z true []):=by simp [pev,zK]
theorem zD0 {z id off len h:Nat} {lim:Option Nat} (hh:h <=len):pev (.sliceL z false true false) [.arr id z off len lim,.sc (.int .i64 (h:Int))]=some (.arr id z off h lim):=by
 have:((h:Int) <=(len:Int)):=by omega
 simp [pev,zK,this]
def zT:List AV:=[.i 0,.s ⟨#[]⟩,.lst 0 true []]
section
variable {S:AS}
theorem zDn {n:Nat} (hn:n * 48 <=140737488355328):call 304 [.lst 0 true [],.sc (.int .i64 (n:Int))] S=
 if n=0 then some (.lst 0 true [],S) else some (.arr S.n 3 0 0 none,S.new (.rows 3 (List.replicate n zT))):=by
 rw [ym zxM rfl rfl];have w1:IntKind.i64.wrap ((n:Int))=n:=w64 (by omega);have h0:¬(n:Int) < 0:=by omega
 by_cases h:n=0
 ·subst h;simp [zeC,zmi,w1];rfl
 ·have h1:(0:Int) < n:=by omega
  have h2:0 < n:=by omega
  have e:za (.appendZ 3 48 [.i 0,.s ⟨#[]⟩,.lst 0 true []]) (some 22) (fun _=>none) S [.lst 3 true [],.sc (.int .i64 (n:Int))]=some (.arr S.n 3 0 n none,none,S.new (.rows 3 (List.replicate n zT))):=by
   have:(n:Int) * 48 <=140737488355328:=by omega
   simp [za,h2,this,zT]
  have e2:pev (.sliceL 3 false true false) [.arr S.n 3 0 n none,.sc (.int .i64 0)]=some (.arr S.n 3 0 0 none):=zD0 (h:=0) (by omega);have w2:IntKind.i64.wrap 0=0:=rfl;simp [zeC,zmi,w1,w2,h0,h1,h,h2,e,e2]
inductive zcA (S:AS) (sz:Nat):List AV -> List (List (List AV)) -> Prop
 |nil:zcA S sz [] []
 |cons {x:AV} {l:List (List AV)} {xs:List AV} {ls:List (List (List AV))} (hr:x.isReg=false) (hl:pev .lenL [x]=some (.sc (.int .i64 l.length))) (hx:∀S',Old S S' -> zv sz S' x=some l) (h:zcA S sz xs ls):zcA S sz (x::xs) (l::ls)
theorem zcA.get {sz:Nat} {xs:List AV} {ls:List (List (List AV))} (h:zcA S sz xs ls):xs.length=ls.length /\ ∀i (hi:i < xs.length),∃x l,xs[i]?=some x /\ ls[i]?=some l /\ x.isReg=false /\ pev .lenL [x]=some (.sc (.int .i64 l.length)) /\ ∀S',Old S S' -> zv sz S' x=some l:=by
 induction h with
 |nil=>exact ⟨rfl,fun i hi=>by simp at hi⟩
 |cons hr hl hx h ih=>
  refine ⟨by simp [ih.1],fun i hi=>?_⟩;cases i with
  |zero=>exact ⟨_,_,rfl,rfl,hr,hl,hx⟩
  |succ i=>simpa using ih.2 i (by simpa using hi)
theorem zHd {z:Nat} {f:Bool} {xs:List (List AV)}:∀S',Old S S' -> zv z S' (.lst z f xs)=some xs:=fun S' _=>zj4 S' z f xs
structure Grow (S S':AS) (v:AV) (acc:List (List AV)) (N:Nat):Prop where
 old:Old S S'
 ro:S'.ro <=S.n
 h:(v=.lst 0 true [] /\ acc=[] /\ N=0) \/ ∃id rest,v=.arr id 3 0 acc.length none /\ S'.heap id=some (.rows 3 (acc++rest)) /\ N <=acc.length+rest.length /\ S.n <=id /\ id < S'.n
theorem Grow.app {S S':AS} {v:AV} {acc ys:List (List AV)} {N:Nat} {x:AV} {d:Option Nat} {rg:Nat -> Option (List AV)} (h:Grow S S' v acc N) (hN:acc.length+ys.length <=N) (hx:zv 3 S' x=some ys):
 ∃v' S'',za (.append 3 48) d rg S' [v,x]=some (v',none,S'') /\ Grow S S'' v' (acc++ys) N /\ v'.isReg=false /\ ∃id,v'=.arr id 3 0 (acc.length+ys.length) none:=by
 rcases h.h with ⟨rfl,rfl,rfl⟩|⟨id,rest,rfl,hh,hr,hid,hlt⟩
 ·obtain rfl:ys=[]:=List.eq_nil_of_length_eq_zero (by omega);refine ⟨.arr S'.n 3 0 0 none,S'.new (.rows 3 []),by simp [za,hx,jd],⟨h.old.trans zf4,h.ro,.inr ⟨S'.n,[],rfl,jw,by simp,h.old.n,Nat.lt_succ_self _⟩⟩,rfl,_,rfl⟩
 ·cases ys with
  |nil=>exact ⟨.arr id 3 0 acc.length none,S',by simp [za,hx,jd],⟨h.old,h.ro,.inr ⟨id,rest,by simp,by simpa using hh,by simpa using hr,hid,hlt⟩⟩,rfl,id,by simp⟩
  |cons y ys=>
   have hro:¬id < S'.ro:=by have:=h.ro;omega
   have h1:¬acc.length+rest.length < acc.length:=by omega
   have h2:acc.length+(ys.length+1) <=acc.length+rest.length:=by simp at hN;omega
   refine ⟨.arr id 3 0 (acc.length+(y::ys).length) none,S'.set id (some (.rows 3 (qF (acc++rest) acc.length (y::ys)))),?_,⟨ztl h.old hid,h.ro,.inr ⟨id,rest.drop (ys.length+1),by simp,?_,?_,hid,hlt⟩⟩,rfl,id,rfl⟩
   ·simp [za,hx,jd,hh,hro];intro h3;omega
   ·show (if id=id then _ else _)=_;rw [if_pos rfl];simp [qF,List.append_assoc]
   ·simp at hN ⊢;omega
def y3 (ls:List (List (List AV))):List (List AV):=ls.flatten
theorem znL {ls:List (List (List AV))} {i:Nat} {l:List (List AV)} (h:ls[i]?=some l):y3 (ls.take (i+1))=y3 (ls.take i)++l:=by
 unfold y3;rw [List.take_add_one,h];simp
theorem zpx {ls:List (List (List AV))} {i:Nat}:(y3 (ls.take i)).length <=(y3 ls).length:=by
 have:y3 ls=y3 (ls.take i)++y3 (ls.drop i):=by
  unfold y3;rw [<- List.flatten_append,List.take_append_drop]
 rw [this,List.length_append];exact Nat.le_add_right _ _
@[simp] theorem zKS:y3 []=[]:=rfl
@[simp] theorem zMF {l:List (List AV)} {ls:List (List (List AV))}:y3 (l::ls)=l++y3 ls:=by simp [y3]
theorem zCF {S:AS} {f:Bool} {xs:List AV} {ls:List (List (List AV))} (h:zcA S 3 xs ls) (hne:xs≠[]) (hlen:xs.length <=4611686018427387904) (hb:(y3 ls).length * 48 <=140737488355328) (hro:S.ro <=S.n):
 ∃id rest S',call 191 [.lst 1 f (xs.map fun x=>[x])] S=some (.arr id 3 0 (y3 ls).length none,S') /\ Old S S' /\ S.n <=id /\ S'.heap id=some (.rows 3 (y3 ls++rest)) /\ id < S'.n:=by
 obtain ⟨hl,hget⟩:=h.get;rw [ym zI9 rfl rfl];simp only [zh2];have hlen':((xs.map fun x=>[x]).length:Int)=(xs.length:Int):=by simp
 let Rt:Option (AV×AS) -> Prop:=fun r=>∃id rest S',r=some (.arr id 3 0 (y3 ls).length none,S') /\ Old S S' /\ S.n <=id /\ S'.heap id=some (.rows 3 (y3 ls++rest)) /\ id < S'.n
 show Rt _;simp [zq7];refine jY (α:=Nat) (R:=fun _=>Rt) (fun i e rg S'=>i <=xs.length /\ S'=S /\ e 0=.lst 1 f (xs.map fun x=>[x]) /\ e 3=.sc (.int .i64 ((y3 (ls.take i)).length:Nat)) /\ e 9=.lst 1 f (xs.map fun x=>[x]) /\ e 10=.sc (.int .i64 (xs.length:Nat)) /\ e 11=.sc (.int .i64 (i:Nat))) (fun i=>xs.length - i) ?_ 0 _ _ _ ?_;rotate_left
 ·simp
 intro kk hkk i e rg S' ⟨hi,hS,h0,h3,h9,h10,h11⟩ ih;subst hS;by_cases hc:i < xs.length
 ·obtain ⟨x,l,hx,hl',hr,hle,hrow⟩:=hget i hc;have e1:pev (.iaddr 1) [.lst 1 f (xs.map fun x=>[x]),.sc (.int .i64 (i:Int))]=some (.iptr [x]):=by
   rw [zcS (by omega)];simp [hx]
  have hfl:=znL hl';have hle2:=@zpx ls (i+1);have w1:IntKind.i64.wrap (((y3 (ls.take i)).length:Int)+(l.length:Int))=((y3 (ls.take (i+1))).length:Nat):=by
   rw [hfl,List.length_append];rw [hfl,List.length_append]at hle2;rw [w64 (by omega)];omega
  have w2:IntKind.i64.wrap ((i:Int)+1)=((i+1:Nat):Int):=w64 (by omega);have hneg:¬(((y3 (ls.take (i+1))).length:Nat):Int) < 0:=by omega
  generalize hA:(y3 (ls.take i)).length=A at *;generalize hB:(y3 (ls.take (i+1))).length=B at *;simp [zmE,h3,h9,h10,h11,hc,e1,hr,hle,w1,w2,hneg];refine ih (i+1) _ _ _ (by omega) (fun _ h=>h) ⟨by omega,rfl,?_⟩;simp [h0,h9,h10,hB]
 ·have hi':i=xs.length:=by omega
  subst hi';have hfull:(y3 (ls.take xs.length)).length=(y3 ls).length:=by rw [hl,List.take_length]
  rw [hfull]at h3;simp [zmE,h10,h11];rw [hkk];obtain ⟨v,S1,hv,hG,hvr⟩:∃v S1,call 304 [.lst 0 true [],.sc (.int .i64 (((y3 ls).length:Nat):Int))] S'=some (v,S1) /\ Grow S' S1 v [] (y3 ls).length /\ v.isReg=false:=by
   rw [zDn hb];by_cases h0:(y3 ls).length=0
   ·exact ⟨_,_,if_pos h0,⟨Old.refl _,hro,.inl ⟨rfl,rfl,h0⟩⟩,rfl⟩
   ·exact ⟨_,_,if_neg h0,⟨zf4,hro,.inr ⟨_,_,rfl,jw,by simp,Nat.le_refl _,Nat.lt_succ_self _⟩⟩,rfl⟩
  simp [h3,hv,hvr,h0];refine jY (α:=Nat) (R:=fun _=>Rt) (fun i e rg S2=>i <=xs.length /\ Grow S' S2 (e 6) (y3 (ls.take i)) (y3 ls).length /\ (e 6).isReg=false /\ (0 < i -> ∃id,e 6=.arr id 3 0 (y3 (ls.take i)).length none) /\ e 25=.lst 1 f (xs.map fun x=>[x]) /\ e 26=.sc (.int .i64 (xs.length:Nat)) /\ e 27=.sc (.int .i64 (i:Nat))) (fun i=>xs.length - i) ?_ 0 _ _ _ ?_;rotate_left
  ·simp [hvr,hG]
  intro kk hkk i e rg S2 ⟨hi,hG,h6r,h6a,h25,h26,h27⟩ ih;by_cases hc:i < xs.length
  ·obtain ⟨x,l,hx,hl',hr,hle,hrow⟩:=hget i hc;have e1:pev (.iaddr 1) [.lst 1 f (xs.map fun x=>[x]),.sc (.int .i64 (i:Int))]=some (.iptr [x]):=by
    rw [zcS (by omega)];simp [hx]
   have hfl:=znL hl';have hle2:=@zpx ls (i+1);have w2:IntKind.i64.wrap ((i:Int)+1)=((i+1:Nat):Int):=w64 (by omega);obtain ⟨v',S3,ha,hG',hvr',hva⟩:=hG.app (d:=some 33) (rg:=rg) (ys:=l) (x:=x) (by rw [hfl,List.length_append]at hle2;omega) (hrow _ hG.old);rw [<- hfl]at hG';rw [<- List.length_append,<- hfl]at hva;simp [zkr,h25,h26,h27,hc,e1,hr,h6r,ha,hvr',w2];refine ih (i+1) _ _ _ (by omega) (fun _ h=>h) ⟨by omega,?_⟩;simp [h25,h26,hG',hvr',hva]
  ·have hi':i=xs.length:=by omega
   subst hi';obtain ⟨id,h6⟩:=h6a (by cases xs with|nil=>exact absurd rfl hne|cons _ _=>simp);rw [hl,List.take_length]at h6 hG;rw [h6]at hG;simp [zkr,h26,h27];rw [hkk];simp [h6];rcases hG.h with ⟨h,_⟩|⟨id',rest,h,hh,_,hid,hlt⟩
   ·cases h
   ·cases h;exact ⟨_,_,_,rfl,hG.old,hid,hh,hlt⟩
end
structure je (S:AS) (x:AV) (l:List T):Prop where
 reg:x.isReg=false
 len:pev .lenL [x.nrm]=some (.sc (.int .i64 l.length))
 nn:x.nrm.nrm=x.nrm
 rows:∀S':AS,(∀id,id < S.n -> S'.heap id=S.heap id) -> zv 3 S' x.nrm=some (l.map T.cells)
section
variable {S:AS}
theorem je.mono {S':AS} {x:AV} {l:List T} (h:je S x l) (hn:S.n <=S'.n) (hh:∀id,id < S.n -> S'.heap id=S.heap id):je S' x l:=
 ⟨h.reg,h.len,h.nn,fun S'' h2=>h.rows S'' fun id hid=>(h2 id (by omega)).trans (hh id hid)⟩
theorem je.nrm {x:AV} {l:List T} (h:je S x l):je S x.nrm l:=
 ⟨by rw [zhB];exact h.reg,by rw [h.nn];exact h.len,by rw [h.nn,h.nn],fun S' h2=>by rw [h.nn];exact h.rows S' h2⟩
theorem je.ro {x:AV} {l:List T} {r:Nat} (h:je S x l):je ⟨S.heap,S.n,r⟩ x l:=h.mono (Nat.le_refl _) fun _ _=>rfl
theorem zCD {l:List T}:je S (zf l) l:=⟨rfl,by simp,by simp,fun S' _=>by rw [zft];exact zd5 S' l⟩
theorem zcp {f:Bool} {l:List T}:je S (.lst 3 f (l.map T.cells)) l:=by
 have e:(AV.lst 3 f (l.map T.cells)).nrm=zf l:=zfH _ _ _ fun _=>rfl;exact ⟨rfl,by rw [e];simp,by rw [e];simp,fun S' _=>by rw [e];exact zd5 S' l⟩
theorem zhm {z:Nat} {f:Bool}:je S (.lst z f []) []:=by
 have e:(AV.lst z f []).nrm=zf []:=zfH z f [] (by simp);exact ⟨rfl,by rw [e];simp,by rw [e];simp,fun S' _=>by rw [e];exact zd5 S' []⟩
theorem zmy {id off n:Nat} {lim:Option Nat} {l:List T} (h:S.slice 0 id 3 off n=some (l.map T.cells)) (hid:id < S.n) (hn:n=l.length):je S (.arr id 3 off n lim) l:=by
 refine ⟨rfl,by subst hn;rfl,rfl,fun S' h2=>?_⟩;show zv 3 S' (.arr id 3 off n lim)=_;simp only [zv,if_true];unfold AS.slice at h ⊢;rw [h2 id hid];exact h
theorem je.r0 {x:AV} {l:List T} (h:je S x l):zv 3 S x.nrm=some (l.map T.cells):=h.rows S fun _ _=>rfl
theorem zlW {x:AV} {l:List T} (h:je S x l) (hl:l.length * 48 <=140737488355328):call 126 [x] S=some (.agg (zO l).cells,S):=zzd h.reg h.r0 h.nn hl
theorem p62 {s:ByteArray} {x:AV} {l:List T} (h:je S x l) (hl:(l.length+1) * 48 <=140737488355328):call 62 [.sc (.string s),x] S=some (.agg (zj s l).cells,S):=by
 rw [wR a62 (args':=[.sc (.string s),x.nrm]) (by simp [h.reg]) (by simp) rfl];have h2:=h.nrm;have hnn:=h.nn;generalize x.nrm=y at h2 hnn;have hls:zcA ⟨S.heap,S.n,S.n⟩ 3 [.lst 3 true [(zJ s).cells],y] [[(zJ s).cells],l.map T.cells]:=by
  refine .cons rfl rfl zHd (.cons h2.reg ?_ (fun S' ho=>?_) .nil)
  ·have:=h2.len;rw [hnn]at this;rw [this];simp
  ·have:=h2.rows S' ho.heap;rw [hnn]at this;exact this
 obtain ⟨id,rest,S',hc,ho,hid,hh,hlt⟩:=zCF (f:=true) hls (by simp) (by simp) (by simp<;>omega) (Nat.le_refl _);have hts:je S' (.arr id 3 0 (y3 [[(zJ s).cells],l.map T.cells]).length none) (zJ s::l):=by
  refine zmy ?_ hlt (by simp<;>omega);unfold AS.slice;rw [if_pos (Nat.zero_le _),hh];simp
  try (intro hx;omega)
 have e2:=zlW hts (by simp<;>omega);have hreg:=h2.reg;have hcell:y.isCell=true:=by
  have:=h2.r0;rw [hnn]at this;cases y<;>first|rfl|(simp [zv]at this)
 have hcells:y.cells=[y]:=by
  have:=h2.r0;rw [hnn]at this;cases y<;>first|rfl|(simp [zv]at this)
 simp only [List.map_cons,List.map_nil]at hc;generalize y3 [[(zJ s).cells],l.map T.cells]=cc at hc e2;simp [f62,zt1,hreg,hcells,hcell,zw,hc,e2,zj]
end
section
variable {S:AS}
theorem zf2 {S:AS} {id row sz:Nat} {rs:List (List AV)} {r:List AV} {d:Option Nat} {rg:Nat -> Option (List AV)} {z:Nat} (hh:S.heap id=some (.rows z rs)) (hr:rs[row]?=some r) (hl:r.length=sz):za (.ld none sz true) d rg S [.ptr id row 0]=some (.agg r,none,S):=by
 rw [yg hh,hr];subst hl;simp
theorem je.at {x:AV} {l:List T} (h:je S x l) {i:Nat} {t:T} (ht:l[i]?=some t):∃p,pev (.iaddr 3) [x.nrm,.sc (.int .i64 (i:Int))]=some p /\ p.isReg=false /\
 ∀S':AS,(∀id,id < S.n -> S'.heap id=S.heap id) -> ∀d rg,za (.ld none 3 true) d rg S' [p]=some (.agg t.cells,none,S'):=by
 have hlen:i < l.length:=(List.getElem?_eq_some_iff.1 ht).1;have hr:=h.rows;have hl:=h.len;generalize x.nrm=y at hr hl ⊢;have h0:=hr S fun _ _=>rfl;cases y with
 |lst z f xs=>
  simp only [zv]at h0;split at h0
  ·rename_i hz;cases h0;have hne:(l.map T.cells).isEmpty=false:=by cases l with
    |nil=>simp at hlen
    |cons _ _=>rfl
   rw [hne]at hz;have hz:z=3:=by simpa using hz
   subst hz;exact ⟨.iptr t.cells,by simp [pev,ht],rfl,fun S' _ d rg=>by simp⟩
  ·cases h0
 |arr id z off n lim=>
  simp only [zv]at h0;split at h0
  ·rename_i hz;subst hz;have hn:n=l.length:=by
    have hl:(n:Int)=(l.length:Int):=by simpa using hl
    omega
   refine ⟨.ptr id (off+i) 0,by simp [pev];omega,rfl,fun S' h2 d rg=>?_⟩;have h1:=hr S' h2;simp only [zv,if_true]at h1;unfold AS.slice at h1;simp only [Nat.zero_le,if_true]at h1;split at h1
   ·rename_i z' rs hh;split at h1
    ·rename_i hc;simp only [Option.some.injEq]at h1;have:((rs.drop off).take n)[i]?=some t.cells:=by rw [h1];simp [ht]
     rw [List.getElem?_take,if_pos (by omega),List.getElem?_drop]at this;exact zf2 hh this (by simp)
    ·cases h1
   ·cases h1
  ·cases h0
 |_=>simp [zv]at h0
structure Own (S0 S':AS) (sz:Nat) (v:AV) (rs:List (List AV)):Prop where
 old:Old S0 S'
 ro:S'.ro <=S0.n
 h:(∃z,v=.lst z true rs /\ (rs=[] \/ z=sz)) \/ ∃id,v=.arr id sz 0 rs.length none /\ S'.heap id=some (.rows sz rs) /\ S0.n <=id /\ id < S'.n
section
variable {S0 S':AS} {sz:Nat} {v:AV} {rs:List (List AV)}
theorem Own.reg (h:Own S0 S' sz v rs):v.isReg=false:=by rcases h.h with ⟨z,rfl,_⟩|⟨id,rfl,_⟩<;>rfl
theorem Own.cell (h:Own S0 S' sz v rs):v.isCell=true:=by rcases h.h with ⟨z,rfl,_⟩|⟨id,rfl,_⟩<;>rfl
theorem Own.cells (h:Own S0 S' sz v rs):v.cells=[v]:=by rcases h.h with ⟨z,rfl,_⟩|⟨id,rfl,_⟩<;>rfl
theorem zhX (hro:S0.ro <=S0.n):Own S0 S0 sz (.lst 0 true []) []:=⟨Old.refl _,hro,.inl ⟨0,rfl,.inl rfl⟩⟩
theorem zsV (hro:S0.ro <=S0.n):Own S0 S0 sz (.lst sz true rs) rs:=⟨Old.refl _,hro,.inl ⟨sz,rfl,.inr rfl⟩⟩
theorem Own.app (h:Own S0 S' sz v rs) {ys:List (List AV)} {x:AV} {bytes:Nat} {d:Option Nat} {rg:Nat -> Option (List AV)} (hx:zv sz S' x=some ys) (hy:ys≠[]) (hb:(rs.length+ys.length) * bytes <=140737488355328):
 ∃v' S'',za (.append sz bytes) d rg S' [v,x]=some (v',none,S'') /\ Own S0 S'' sz v' (rs++ys):=by
 cases ys with
 |nil=>exact absurd rfl hy
 |cons y ys=>
  rcases h.h with ⟨z,rfl,hz⟩|⟨id,rfl,hh,hid,hlt⟩
  ·refine ⟨.arr S'.n sz 0 (rs++y::ys).length none,S'.new (.rows sz (rs++y::ys)),?_,⟨h.old.trans zf4,h.ro,.inr ⟨S'.n,rfl,jw,h.old.n,Nat.lt_succ_self _⟩⟩⟩;have hz':(rs.isEmpty ||z==sz)=true:=by
    rcases hz with rfl|rfl<;>simp
   simp only [za,hx,Option.bind_some,jd,List.isEmpty_cons,Bool.false_eq_true,if_false,hz',Bool.true_and,hb,decide_true,if_true,Option.map_some,List.length_append]
  ·have hro:¬id < S'.ro:=by have:=h.ro;omega
   refine ⟨.arr S'.n sz 0 (rs++y::ys).length none,(S'.set id none).new (.rows sz (rs++y::ys)),?_,⟨(ztl h.old hid).trans zf4,h.ro,.inr ⟨S'.n,rfl,jw,h.old.n,Nat.lt_succ_self _⟩⟩⟩;simp only [za,hx,Option.bind_some,jd,List.isEmpty_cons,Bool.false_eq_true,if_false,hh];rw [if_neg (by simp;omega),if_neg (by simp),if_pos ⟨trivial,hb⟩];simp
theorem Own.push (h:Own S0 S' sz v rs) {r:List AV} {bytes n:Nat} {f:Bool} {d:Option Nat} {rg:Nat -> Option (List AV)} (hn:rs.length=n) (hb:(n+1) * bytes <=140737488355328):
 ∃v' S'',za (.append sz bytes) d rg S' [v,.lst sz f [r]]=some (v',none,S'') /\ Own S0 S'' sz v' (rs++[r]) /\ v'.isReg=false /\ v'.isCell=true /\ v'.cells=[v']:=by
 obtain ⟨v',S'',h1,h2⟩:=h.app (d:=d) (rg:=rg) (bytes:=bytes) (ys:=[r]) (x:=.lst sz f [r]) (zj4 ..) (by simp) (by subst hn;exact hb);exact ⟨v',S'',h1,h2,h2.reg,h2.cell,h2.cells⟩
theorem Own.frz (h:Own S0 S' sz v rs) {rs':List (List AV)} {b d:Nat} (hb:b <=S0.n) (hr:zE (zE (S'.frzTo b d)) rs=some rs') (hr':zE (zE (S'.frzTo b (d+1))) rs=some rs'):S'.frzTo b (d+1) v=some (lstN sz rs'):=by
 rcases h.h with ⟨z,rfl,hz⟩|⟨id,rfl,hh,hid,hlt⟩
 ·rw [zr7,hr'];rcases hz with rfl|rfl
  ·cases hr';rfl
  ·rfl
 ·rw [zC4 (wD hh (by omega)),hr];rfl
theorem Own.frzT {l:List T} (h:Own S0 S' 3 v (l.map T.cells)) {b d:Nat} (hb:b <=S0.n):S'.frzTo b (d+1) v=some (zf l):=h.frz hb (by simp) (by simp)
theorem Own.frzS {l:List ByteArray} (h:Own S0 S' 1 v (zS l)) {b d:Nat} (hb:b <=S0.n):S'.frzTo b (d+1) v=some (zB l):=h.frz hb (by simp) (by simp)
theorem Own.frzI {l:List Int} (h:Own S0 S' 1 v (ji l)) {b d:Nat} (hb:b <=S0.n):S'.frzTo b (d+1) v=some (jA l):=h.frz hb (by simp) (by simp)
theorem Own.isTs {l:List T} (h:Own S0 S' 3 v (l.map T.cells)):je S' v l:=by
 rcases h.h with ⟨z,rfl,hz⟩|⟨id,rfl,hh,hid,hlt⟩
 ·rcases hz with hz|rfl
  ·cases l with
   |nil=>exact zhm
   |cons _ _=>simp at hz
  ·exact zcp
 ·exact zmy (wD hh (Nat.zero_le _)) hlt (by simp)
end
end
section
variable {S:AS}
theorem zwe {l:List T} {i:Nat} {t:T} (h:l[i]?=some t):(l.take (i+1)).map T.cells=(l.take i).map T.cells++[t.cells]:=by
 rw [List.take_add_one,h];simp
theorem jK {α:Type} {l:List α} {i:Nat} (h:i < l.length):∃t,l[i]?=some t:=⟨l[i],by simp [h]⟩
theorem p63 {s:ByteArray} {x:AV} {l:List T} (h:je S x l) (hl:(l.length+1) * 48 <=140737488355328):call 63 [.sc (.string s),x] S=some (.agg (zj s l).cells,S):=by
 rw [wR a63 (args':=[.sc (.string s),x.nrm]) (by simp [h.reg]) (by simp) rfl];have h2:=h.nrm;have hnn:=h.nn;generalize x.nrm=y at h2 hnn;have hreg:=h2.reg;have hlen:=h2.len;rw [hnn]at hlen;simp only [f63];simp [-zg,ztx,zw,hreg];rw [show (some (AV.agg (zj s l).cells,S):Option (AV×AS))=zW S (some (AV.agg (zj s l).cells,S)) by simp]
 let S0:AS:=⟨S.heap,S.n,S.n⟩
 refine jY (α:=Nat) (R:=fun _ r=>zW S r=zW S (some (.agg (zj s l).cells,S))) (fun i e rg S'=>i <=l.length /\ e 1=y /\ e 4=.reg 4 0 /\ (rg 4).isSome /\ (∃z,rg 4=some z /\ z.length=3) /\ e 5=.reg 5 0 /\ e 6=.sc (.int .i64 (i:Nat)) /\ ∃v,rg 5=some [.sc (.int .i64 3),.sc (.string ⟨#[]⟩),v] /\ Own S0 S' 3 v ((zJ s::l.take i).map T.cells)) (fun i=>l.length - i) ?_ 0 _ _ _ ?_;rotate_left
 ·refine ⟨by omega,by simp,by simp,by simp,⟨_,by simp;rfl,rfl⟩,by simp,by simp,_,by simp;rfl,?_⟩;exact zsV (Nat.le_refl _)
 intro kk hkk i e rg S' ⟨hi,h1,h4,_,⟨z,hz,hzl⟩,h5,h6,v,h7,hO⟩ ih;by_cases hc:i < l.length
 ·obtain ⟨t,ht⟩:=jK hc;obtain ⟨p,hp,hpr,hld⟩:=h2.at ht;rw [hnn]at hp;have hld:=hld S' (fun id hid=>hO.old.heap id hid) (some 22);have hL:((zJ s::l.take i).map T.cells).length=i+1:=by
   rw [List.length_map,List.length_cons,List.length_take];omega
  obtain ⟨v',S'',ha,hO'⟩:=hO.app (bytes:=48) (ys:=[t.cells]) (x:=.lst 3 true [t.cells]) (d:=some 24) (rg:=rg) (zj4 ..) (by simp) (by have h1:[t.cells].length=1:=rfl;omega);have w2:IntKind.i64.wrap ((i:Int)+1)=((i+1:Nat):Int):=w64 (by omega);have hcell:=hO'.cell;have hcells:=hO'.cells;simp [-zg,zkd,h1,h5,h6,hlen,hc,h7,hp,hpr,hld,ha,w2,hcell,hcells,zw];refine ih (i+1) _ _ _ (by omega) (fun _ h=>h) ?_;refine ⟨by omega,by simp [h1],by simp [h4],by simp [hz],⟨z,by simp [hz],hzl⟩,by simp [h5],by simp,v',by simp,?_⟩;rw [List.map_cons,zwe ht];exact hO'
 ·have hi':i=l.length:=by omega
  subst hi';rw [List.take_length]at hO;simp [-zg,zkd,h1,h6,hlen];rw [hkk];have hcell:=hO.cell;have hf:=hO.frzT (l:=zJ s::l) (b:=S.n) (d:=1) (Nat.le_refl _)
  match z,hzl with
  |[z1,z2,z3],_=>
   simp [h4,h5,h7,hz,hcell,hf,zj,zO,T.cells,yr,kJ,zf]
theorem zFJ {s:ByteArray} (hs:s.size <=4611686018427387904):pev (.bin .add) [.sc (.string ⟨#[61]⟩),.sc (.string s)]=some (.sc (.string (eqB s))):=zt5 hs
theorem s64 {s:ByteArray} (hs:s.size <=4611686018427387904):call 64 [.sc (.string s)] S=some (.agg (yF s).cells,S):=by
 rw [zh a64 rfl (by simp) rfl];simp [f64,zqr,zFJ hs];rfl
def jU (l:List ByteArray):List T:=l.map yF
end
theorem zfd:∀(k n:Nat),n < 10 ^ (k+1) -> (zV n).size <=k+1
 |0,n,h=>by
  rw [zce (by omega)];exact Nat.le_refl _
 |k+1,n,h=>by
  by_cases hn:n < 10
  ·rw [zce hn];show 1 <=_;omega
  ·rw [zen (by omega),ByteArray.size_append];have:=zfd k (n / 10) (by rw [Nat.pow_succ]at h;omega);have h1:(jB (n % 10)).size=1:=rfl;omega
theorem wI {n:Int} (hl: -9223372036854775808 <=n) (hh:n <=9223372036854775807):(zq n).size <=20:=by
 unfold zq Lib.itoa;split
 ·have:=zfd 18 n.natAbs (by omega);have h2:(⟨(45::Lib.decDigits n.natAbs).toArray⟩:ByteArray).size=(zV n.natAbs).size+1:=by
   unfold zV;show (List.toArray _).size=(List.toArray _).size+1;simp
  omega
 ·have:=zfd 18 n.toNat (by omega);unfold zV at this;omega
def jI (s p:ByteArray):Option ByteArray:=if s.extract 0 p.size=p then some (s.extract p.size s.size) else none
theorem zle {s p r:ByteArray}:jI s p=some r↔s=p++r:=by
 unfold jI;constructor
 ·intro h;split at h
  ·rename_i hc;cases h;have hsz:p.size <=s.size:=by
    have:=congrArg ByteArray.size hc;rw [ByteArray.size_extract]at this;omega
   conv=>rhs;lhs;rw [<- hc]
   rw [<- ByteArray.extract_eq_extract_append_extract _ (Nat.zero_le _) hsz,ByteArray.extract_zero_size]
  ·cases h
 ·rintro rfl;rw [if_pos (ByteArray.extract_append_eq_left rfl),ByteArray.extract_append_eq_right rfl (by rw [ByteArray.size_append])]
theorem zmW {p r:ByteArray}:jI (p++r) p=some r:=zle.2 rfl
theorem zkA {s p r:ByteArray} (h:jI s p=some r):s.size=p.size+r.size:=by rw [zle.1 h,ByteArray.size_append]
section
variable {S:AS}
theorem zmp {s p:ByteArray}:call 398 [.sc (.string s),.sc (.string p)] S=some (.sc (.bool (jI s p).isSome),S):=by
 rw [zh zB5 rfl (by simp) rfl];unfold jI;by_cases h:p.size <=s.size
 ·have h':(p.size:Int) <=s.size:=by omega
  have e:=zlu (s:=s) (n:=(p.size:Int)) (by omega) h';rw [Int.toNat_natCast]at e;by_cases hc:s.extract 0 p.size=p
  ·simp [zdc,zjD,h,e,hc]
  ·simp [zdc,zjD,h,e,hc]
 ·have hc:s.extract 0 p.size≠p:=by
   intro hc;have:=congrArg ByteArray.size hc;rw [ByteArray.size_extract]at this;omega
  simp [zdc,zjD,h,hc]
def zad (s:ByteArray):Option ByteArray -> AV
 |some r=>.tup [.sc (.string r),.sc (.bool true)]
 |none=>.tup [.sc (.string s),.sc (.bool false)]
theorem zpS {s p:ByteArray}:call 306 [.sc (.string s),.sc (.string p)] S=some (zad s (jI s p),S):=by
 rw [zh zzb rfl (by simp) rfl];have e:=@zmp;cases hc:jI s p with
 |none=>simp [zeY,zl3,zmp,hc,zad]
 |some r=>
  have hs:=zkA hc;have h':(p.size:Int) <=s.size:=by omega
  have e:=zjM (s:=s) (n:=(p.size:Int)) (by omega) h';rw [Int.toNat_natCast]at e;have er:s.extract p.size s.size=r:=by
   unfold jI at hc;split at hc
   ·cases hc;rfl
   ·cases hc
  rw [er]at e;simp [zeY,zl3,zmp,hc,e,zad]
theorem zjk {s p:ByteArray}:call 195 [.sc (.string s),.sc (.string p)] S=some (zad s (jI s p),S):=by
 rw [zh zIn rfl (by simp) rfl];cases hc:jI s p with
 |none=>simp [zfP,zlf,zpS,hc,zad]
 |some r=>simp [zfP,zlf,zpS,hc,zad]
def vI (t:T):Bool:=decide (t.kind=1) && decide (t.kids.length=0)
theorem zdJ {t:T}:call 194 [.agg t.cells] S=some (.tup [.sc (.string t.name),.sc (.bool (vI t))],S):=by
 unfold vI;rw [zh zH0 rfl (by simp) rfl];by_cases h1:t.kind=1
 ·by_cases h2:t.kids.length=0
  ·have h3:(t.kids.length:Int)=0:=by omega
   simp [zdi,zjE,h1,h2]
  ·have h3:¬(t.kids.length:Int)=0:=by omega
   simp [zdi,zjE,h1,h2]
 ·simp [zdi,zjE,h1]
def ju (o:Option ByteArray):AV:=.tup [.sc (.string (o.getD ⟨#[]⟩)),.sc (.bool o.isSome)]
def j0 (t:T):Option ByteArray:=if vI t then jI t.name ⟨#[61]⟩ else none
theorem s85 {t:T}:call 85 [.agg t.cells] S=some (ju (j0 t),S):=by
 rw [zh a85 rfl (by simp) rfl];unfold j0;cases h:vI t with
 |true=>
  cases hc:jI t.name ⟨#[61]⟩ with
  |none=>simp [f85,zfc,zdJ,zjk,h,hc,zad,ju]
  |some r=>simp [f85,zfc,zdJ,zjk,h,hc,zad,ju]
 |false=>
  cases hc:jI t.name ⟨#[61]⟩ with
  |none=>simp [f85,zfc,zdJ,zjk,h,hc,zad,ju]
  |some r=>simp [f85,zfc,zdJ,zjk,h,hc,zad,ju]
theorem zH2 {s:ByteArray}:jI s ⟨#[61]⟩=if s.data[0]?=some 61 then some (s.extract 1 s.size) else none:=by
 obtain ⟨⟨l⟩⟩:=s;unfold jI;show (if ByteArray.extract ⟨⟨l⟩⟩ 0 1=_ then some (ByteArray.extract ⟨⟨l⟩⟩ 1 _) else none)=_;cases l with
 |nil=>
  rw [if_neg,if_neg]
  ·simp
  ·intro h;have:=congrArg ByteArray.size h;rw [ByteArray.size_extract]at this;have h1:(⟨⟨[]⟩⟩:ByteArray).size=0:=rfl;have h2:(⟨#[61]⟩:ByteArray).size=1:=rfl;omega
 |cons b l=>
  by_cases h:b=61
  ·subst h;rw [if_pos,if_pos]
   ·simp
   ·apply kw;simp [ByteArray.data_extract]
  ·rw [if_neg,if_neg]
   ·simpa using h
   ·intro h2;have:=congrArg (fun x=>x.data.toList) h2;simp [ByteArray.data_extract]at this;exact h this
theorem s86 {t:T}:call 86 [.agg t.cells] S=some (ju (j0 t),S):=by
 rw [zh a86 rfl (by simp) rfl];unfold j0 vI;rw [zH2];by_cases h1:t.kind=1
 ·by_cases h2:t.kids.length=0
  ·by_cases h3:t.name=⟨#[]⟩
   ·simp [f86,zdn,h1,h2,h3,ju]
   ·have hsz:0 < t.name.size:=by
     apply Classical.byContradiction;intro hn;apply h3;have:t.name.size=0:=by omega
     exact ByteArray.size_eq_zero_iff.1 this
    have hsz':0 < t.name.data.size:=hsz;obtain ⟨b,hb⟩:∃b,t.name.data[0]?=some b:=⟨t.name.data[0],by simp [hsz']⟩;have e1:pev .indexS [.sc (.string t.name),.i 0]=some (.sc (.int .u8 (b.toNat:Int))):=by
     simp [pev,hb]
    have e2:=zjM (s:=t.name) (n:=1) (by omega) (by omega);by_cases h4:b=61
    ·subst h4;simp [f86,zdn,h1,h2,h3,e1,hb,ju];simp [e2]
    ·have h5:¬((b.toNat:Int)=61):=by
      intro h;apply h4;have:b.toNat=61:=by omega
      exact UInt8.toNat_inj.1 this
     simp [f86,zdn,h1,h2,h3,e1,hb,h4,h5,ju]
  ·have h2':0 < t.kids.length:=by omega
   have h2'':(0:Int) < t.kids.length:=by omega
   simp [f86,zdn,h1,h2,h2',ju]
 ·simp [f86,zdn,h1,ju]
end
def qr (c:UInt8):Prop:=48 <=c.toNat /\ c.toNat <=57
instance (c:UInt8):Decidable (qr c):=by unfold qr;infer_instance
def qJ:Nat -> List UInt8 -> Nat
 |a,[]=>a
 |a,c::l=>qJ (a * 10+(c.toNat - 48)) l
theorem zsM:∀{l m:List UInt8} {a:Nat},qJ a (l++m)=qJ (qJ a l) m
 |[],_,_=>rfl
 |_::l,m,a=>zsM (l:=l)
theorem zlE:∀{l:List UInt8} {a:Nat},a <=qJ a l
 |[],_=>Nat.le_refl _
 |c::l,a=>Nat.le_trans (by omega) (zlE (l:=l))
theorem zqf {d:Nat} (h:d < 10):qr (UInt8.ofNat (48+d)) /\ (UInt8.ofNat (48+d)).toNat - 48=d:=by
 have:(UInt8.ofNat (48+d)).toNat=48+d:=by
  rw [UInt8.toNat_ofNat'];omega
 unfold qr;omega
theorem wv:∀(n:Nat),(∀c∈Lib.decDigits n,qr c) /\ qJ 0 (Lib.decDigits n)=n /\ Lib.decDigits n≠[]:=by
 intro n
 induction n using Nat.strongRecOn with
 |_ n ih=>
  rw [Lib.decDigits];split
  ·rename_i h;obtain ⟨h1,h2⟩:=zqf h;refine ⟨by intro c hc;rw [List.mem_singleton.1 hc];exact h1,?_,List.cons_ne_nil _ _⟩;show 0 * 10+((UInt8.ofNat (48+n)).toNat - 48)=n;rw [h2];omega
  ·rename_i h;obtain ⟨i1,i2,i3⟩:=ih (n / 10) (by omega);obtain ⟨h1,h2⟩:=zqf (d:=n % 10) (by omega);refine ⟨?_,?_,by simp⟩
   ·intro c hc;rcases List.mem_append.1 hc with hc|hc
    ·exact i1 c hc
    ·rw [List.mem_singleton.1 hc];exact h1
   ·rw [zsM,i2];show n / 10 * 10+((UInt8.ofNat (48+n % 10)).toNat - 48)=n;rw [h2];omega
theorem zla:∀{l:List UInt8} {a:Nat},(∀c∈l,qr c) -> qJ a l < 18446744073709551616 -> Lib.parseUint10 a l=.ok (qJ a l)
 |[],_,_,_=>rfl
 |c::l,a,hd,hb=>by
  have h1:=hd c (by simp);have hge:=@zlE l (a * 10+(c.toNat - 48));have hb':qJ (a * 10+(c.toNat - 48)) l < 18446744073709551616:=hb;unfold qr at h1;rw [Lib.parseUint10,if_pos h1,if_neg (by omega),if_neg (by omega)];exact zla (fun x hx=>hd x (by simp [hx])) hb'
theorem zeb {n:Int} (hl: -9223372036854775808 <=n) (hh:n <=9223372036854775807):Lib.atoiAll (Lib.itoa n)=.ok n:=by
 unfold Lib.itoa;split
 ·rename_i h;obtain ⟨i1,i2,i3⟩:=wv n.natAbs;have hp:=zla i1 (a:=0) (by rw [i2];omega);rw [i2]at hp;have e2:Lib.parseMag (Lib.decDigits n.natAbs)=.ok n.natAbs:=by unfold Lib.parseMag;rw [if_neg i3,hp]
  unfold Lib.atoiAll;dsimp only;rw [if_pos (.inr rfl),e2];dsimp only;rw [if_neg (fun h=>h.1 rfl),if_neg (fun h=>by omega),if_pos (show (45:UInt8).toNat=45 from rfl)];congr 1;omega
 ·rename_i h;obtain ⟨i1,i2,i3⟩:=wv n.toNat;have hp:=zla i1 (a:=0) (by rw [i2];omega);rw [i2]at hp;have e2:Lib.parseMag (Lib.decDigits n.toNat)=.ok n.toNat:=by unfold Lib.parseMag;rw [if_neg i3,hp]
  generalize hd:Lib.decDigits n.toNat=l at *;cases l with
  |nil=>exact absurd rfl i3
  |cons c r=>
   have hc:=i1 c (by simp);unfold qr at hc;unfold Lib.atoiAll;dsimp only;rw [if_neg (fun h=>by omega),e2];dsimp only;rw [if_neg (fun h=>by omega),if_neg (fun h=>by omega),if_neg (fun h=>by omega)];congr 1;omega
theorem zaB {n:Int}:(zq n).data.toList=Lib.itoa n:=by simp [zq]
theorem ziH {n m:Int} (hn: -9223372036854775808 <=n /\ n <=9223372036854775807) (hm: -9223372036854775808 <=m /\ m <=9223372036854775807) (h:zq n=zq m):n=m:=by
 have h1:=zeb hn.1 hn.2;have h2:=zeb hm.1 hm.2;rw [<- zaB,h,zaB,h2]at h1;cases h1;rfl
def inI (n:Int):Prop:= -9223372036854775808 <=n /\ n <=9223372036854775807
open Classical in
noncomputable def kQ (s:ByteArray):Option Int:=if h:∃n,inI n /\ zq n=s then some h.choose else none
theorem zfF {s:ByteArray} {n:Int}:kQ s=some n↔inI n /\ zq n=s:=by
 unfold kQ;constructor
 ·intro h;split at h
  ·rename_i hx;cases h;exact hx.choose_spec
  ·cases h
 ·intro h;have hx:∃n,inI n /\ zq n=s:=⟨n,h⟩;rw [dif_pos hx];have:=hx.choose_spec;rw [ziH this.1 h.1 (this.2.trans h.2.symm)]
theorem zfZ {s:ByteArray}:kQ s=none↔∀n,inI n -> zq n≠s:=by
 rw [Option.eq_none_iff_forall_not_mem];constructor
 ·intro h n hn he;exact h n (zfF.2 ⟨hn,he⟩)
 ·intro h n hn;have:=zfF.1 hn;exact h n this.1 this.2
theorem zzx {n:Int} (h:inI n):kQ (zq n)=some n:=zfF.2 ⟨h,rfl⟩
noncomputable def kD (t:T):Option Int:=(j0 t).bind fun s=>if s.size <=18 then kQ s else none
def yQ (o:Option Int):AV:=.tup [.sc (.int .i64 (o.getD 0)),.sc (.bool o.isSome)]
section
variable {S:AS}
theorem zeE {n:Int} (h:inI n):call 193 [.sc (.int .i64 n)] S=some (.sc (.string (zq n)),S):=by
 rw [zfx zIQ rfl];unfold inI at h;simp only [wO,if_pos h]
theorem s66 {n:Int} (h:inI n):call 66 [.sc (.int .i64 n)] S=some (.agg (qb n).cells,S):=by
 have hs:=wI h.1 h.2;rw [zh a66 rfl (by simp) rfl];simp [f66,zry,zeE h,s64 (s:=zq n) (by omega),qb]
theorem zq1 {s:ByteArray} (h:s.size <=281474976710656):call 196 [.sc (.string s)] S=some (match Lib.atoiAll s.data.toList with
 | .ok v=>.tup [.sc (.int .i64 v),.sc .nilIface]
 | .range=>.tup [.sc (.int .i64 (Lib.atoiSat s.data.toList)),.opq]
 |_=>.tup [.sc (.int .i64 0),.opq],S):=by
 rw [zfx zAP rfl];simp only [za3,if_pos h];cases Lib.atoiAll s.data.toList<;>rfl
theorem zpR {l:List UInt8} {v:Int} (h:Lib.atoiAll l=.ok v):inI v:=by
 unfold Lib.atoiAll at h;unfold inI;split at h
 ·cases h
 ·simp only at h;split at h
  ·cases h
  ·cases h
  ·split at h
   ·cases h
   ·split at h
    ·cases h
    ·rename_i h1 h2;cases h;split<;>omega
theorem s87 {t:T} (hn:t.name.size <=281474976710656):call 87 [.agg t.cells] S=some (yQ (kD t),S):=by
 rw [zh a87 rfl (by simp) rfl];unfold kD;cases hw:j0 t with
 |none=>
  have e:∀S,call 196 [.sc (.string ⟨#[]⟩)] S=some (.tup [.sc (.int .i64 0),.opq],S):=fun S=>by
   rw [zq1 (by show 0 <=_;omega)];rfl
  simp [f87,zbZ,s85,hw,ju,e,yQ]
 |some s=>
  have hs:s.size <=281474976710656:=by
   unfold j0 at hw;split at hw
   ·have:=zkA hw;omega
   ·cases hw
  have e:=fun S=>@zq1 S s hs;simp only [Option.bind_some];cases ha:Lib.atoiAll s.data.toList with
  |ok v=>
   rw [ha]at e;have hv:=zpR ha;by_cases h18:s.size <=18
   ·rw [if_pos h18];have h18':¬(18:Int) < s.size:=by omega
    by_cases hi:zq v=s
    ·rw [zfF.2 ⟨hv,hi⟩];simp [f87,zbZ,s85,hw,ju,e,h18',zeE hv,hi,yQ]
    ·have:kQ s=none:=by
      rw [zfZ];intro n hn he;have h1:=zeb hn.1 hn.2;rw [<- zaB,he,ha]at h1;cases h1;exact hi he
     rw [this];simp [f87,zbZ,s85,hw,ju,e,h18',zeE hv,hi,yQ]
   ·rw [if_neg h18];have h18':(18:Int) < s.size:=by omega
    simp [f87,zbZ,s85,hw,ju,e,h18',yQ]
  |range=>
   rw [ha]at e;have:(if s.size <=18 then kQ s else none)=none:=by
    split
    ·rw [zfZ];intro n hn he;have h1:=zeb hn.1 hn.2;rw [<- zaB,he,ha]at h1;cases h1
    ·rfl
   rw [this];simp [f87,zbZ,s85,hw,ju,e,yQ]
  |_=>
   rw [ha]at e;have:(if s.size <=18 then kQ s else none)=none:=by
    split
    ·rw [zfZ];intro n hn he;have h1:=zeb hn.1 hn.2;rw [<- zaB,he,ha]at h1;cases h1
    ·rfl
   rw [this];simp [f87,zbZ,s85,hw,ju,e,yQ]
end
def yI (t:T):ByteArray:=match t.kids with
 |k::_=>if t.kind=3 /\ t.name=⟨#[]⟩ /\ vI k=true then k.name else ⟨#[]⟩
 |[]=>⟨#[]⟩
theorem zfk {t:T} (h:¬(t.kind=3 /\ t.name=(⟨#[]⟩:ByteArray))):yI t=⟨#[]⟩:=by
 unfold yI;split
 ·rw [if_neg fun h2=>h ⟨h2.1,h2.2.1⟩]
 ·rfl
theorem zns {t:T} (h:t.kids=[]):yI t=⟨#[]⟩:=by unfold yI;rw [h]
theorem zmr {t k:T} {l:List T} (h1:t.kind=3) (h2:t.name=(⟨#[]⟩:ByteArray)) (h:t.kids=k::l):yI t=if vI k then k.name else ⟨#[]⟩:=by
 unfold yI;rw [h];simp [h1,h2]
def yw (tag:ByteArray) (n:Int) (t:T):Option (List T):=if tag≠⟨#[]⟩ /\ yI t=tag /\ (t.kids.length:Int)=n+1 then some t.kids.tail else none
def zN (o:Option (List T)):AV:=.tup [zf (o.getD []),.sc (.bool o.isSome)]
theorem zrW {k:T} {l:List T}:zf (k::l)=.lst 3 false (k.cells::l.map T.cells):=rfl
@[simp] theorem zJH {l:List T}:lstN 3 (l.map T.cells)=zf l:=rfl
theorem zfg {k:T} {l:List T}:pev (.iaddr 3) [zf (k::l),.i 0]=some (.iptr k.cells):=zI (i:=0) rfl
section
variable {S:AS}
theorem s81 {t:T}:call 81 [.agg t.cells] S=some (.sc (.string (yI t)),S):=by
 rw [zh a81 rfl (by simp) rfl];by_cases h1:t.kind=3
 ·by_cases h2:t.name=⟨#[]⟩
  ·cases hk:t.kids with
   |nil=>rw [zns hk];simp [f81,zcU,h1,h2,hk]
   |cons k l=>
    rw [zmr h1 h2 hk];have h3:(0:Int) < l.length+1:=by omega
    cases hd:vI k with
    |true=>simp [f81,zcU,h1,h2,hk,h3,zfg,zdJ,hd]
    |false=>simp [f81,zcU,h1,h2,hk,h3,zfg,zdJ,hd]
  ·rw [zfk (by simp [h2])];simp [f81,zcU,h1,h2]
 ·rw [zfk (by simp [h1])];simp [f81,zcU,h1]
theorem s82 {t:T}:call 82 [.agg t.cells] S=some (.sc (.string (yI t)),S):=by
 rw [zh a82 rfl (by simp) rfl];by_cases h1:t.kind=3
 ·by_cases h2:t.name=⟨#[]⟩
  ·cases hk:t.kids with
   |nil=>rw [zns hk];simp [f82,zcF,h1,h2,hk]
   |cons k l=>
    rw [zmr h1 h2 hk];have h3:¬(l.length:Int)+1=0:=by omega
    have c0:=zu k;by_cases hk1:k.kind=1
    ·by_cases hk2:k.kids.length=0
     ·have hd:vI k=true:=by simp only [vI,hk1,hk2,decide_true,Bool.and_true]
      have hk3:k.kids=[]:=List.eq_nil_of_length_eq_zero hk2;simp [f82,zcF,h1,h2,hk,h3,zfg,hk1,hk3,hd,c0]
     ·have hd:vI k=false:=by simp only [vI,hk1,decide_true,Bool.true_and,decide_eq_false_iff_not];exact hk2
      have hk4:0 < k.kids.length:=by omega
      simp [f82,zcF,h1,h2,hk,h3,zfg,hk1,hk4,hd,c0]
    ·have hd:vI k=false:=by simp only [vI,hk1,decide_false,Bool.false_and]
     simp [f82,zcF,h1,h2,hk,h3,zfg,hk1,hd,c0]
  ·rw [zfk (by simp [h2])];simp [f82,zcF,h1,h2]
 ·rw [zfk (by simp [h1])];simp [f82,zcF,h1]
theorem ztg {t:T} {tag:ByteArray} (h:yI t=tag) (hn:tag≠⟨#[]⟩):∃k l,t.kids=k::l:=by
 unfold yI at h;split at h
 ·rename_i k l hk;exact ⟨k,l,hk⟩
 ·exact absurd h.symm hn
theorem s78 {tag:ByteArray} {n:Int} {t:T} (hf:t.kids.length <=4611686018427387904):call 78 [.sc (.string tag),.sc (.int .i64 n),.agg t.cells] S=some (zN (yw tag n t),S):=by
 rw [zh a78 rfl (by simp) rfl];have w1:IntKind.i64.wrap ((t.kids.length:Int) - 1)=t.kids.length - 1:=w64 (by omega);unfold yw;by_cases h1:tag=⟨#[]⟩
 ·subst h1;rw [if_neg (by simp)];simp [f78,zes,zN];rfl
 ·by_cases h2:yI t=tag
  ·by_cases h3:(t.kids.length:Int)=n+1
   ·rw [if_pos ⟨h1,h2,h3⟩];obtain ⟨k,l,hk⟩:=ztg h2 h1;have h4:t.kids.length - 1=n:=by omega
    have e:pev (.sliceL 3 true true true) [zf t.kids,.i 1,.sc (.int .i64 t.kids.length),.sc (.int .i64 t.kids.length)]=some (.lst 3 true (l.map T.cells)):=by
     rw [hk];have hh:(1:Int) <=(l.length:Int)+1:=by omega
     have hb:(0:Int) <=(l.length:Int)+1:=by omega
     simp [pev,zrW,zK,hh,hb];exact List.take_of_length_le (by simp)
    have h5:(t.kids.length:Int) - 1=n:=by omega
    rw [h5]at w1;have htl:t.kids.tail=l:=by rw [hk];rfl
    rw [htl];simp [f78,zes,s81,h1,h2,w1,h5,e,zN]
   ·rw [if_neg (by simp [h3])];have h5:¬(t.kids.length:Int) - 1=n:=by omega
    simp [f78,zes,s81,h1,h2,w1,h5,zN];rfl
  ·rw [if_neg (by simp [h2])];simp [f78,zes,s81,h1,h2,zN];rfl
theorem s79 {tag:ByteArray} {n:Int} {t:T} (hn: -4611686018427387904 <=n /\ n <=4611686018427387904):call 79 [.sc (.string tag),.sc (.int .i64 n),.agg t.cells] S=some (zN (yw tag n t),S):=by
 rw [zh a79 rfl (by simp) rfl];have w1:IntKind.i64.wrap (n+1)=n+1:=w64 (by omega);unfold yw;by_cases h1:tag=⟨#[]⟩
 ·subst h1;rw [if_neg (by simp)];simp [f79,zeV,s82,zN];rfl
 ·by_cases h2:yI t=tag
  ·by_cases h3:(t.kids.length:Int)=n+1
   ·rw [if_pos ⟨h1,h2,h3⟩];obtain ⟨k,l,hk⟩:=ztg h2 h1;have e:pev (.sliceL 3 true false false) [zf t.kids,.i 1]=some (.lst 3 false (l.map T.cells)):=by
     rw [hk];have hh:(1:Int) <=(l.length:Int)+1:=by omega
     simp [pev,zrW,zK,hh]
    have htl:t.kids.tail=l:=by rw [hk];rfl
    rw [htl];rw [<- h3]at w1;simp [f79,zeV,s82,h1,h2,<- h3,w1,e,zN]
   ·rw [if_neg (by simp [h3])];simp [f79,zeV,s82,h1,h2,w1,h3,zN];rfl
  ·rw [if_neg (by simp [h2])];simp [f79,zeV,s82,h1,h2,zN];rfl
def wE:ByteArray:=⟨#[110,111,110,101]⟩
def jD (t:T):Bool:=(yw wE 0 t).isSome
theorem s84 {t:T}:call 84 [.agg t.cells] S=some (.sc (.bool (jD t)),S):=by
 rw [zh a84 rfl (by simp) rfl];have e:=fun S=>@s79 S wE 0 t (by omega);simp only [wE]at e;unfold jD wE;simp [f84,zqK,e,zN]
end
def jW:Bool -> Nat -> List UInt8 -> Option Nat
 |_,n,[]=>some n
 |f,n,c::l=>if f=true /\ c=45 then jW false n l else if qr c then jW false (n * 10+(c.toNat - 48)) l else none
def wc (s:ByteArray) (o:Option Nat):Option Int:=o.bind fun n=>if zq (if s.data[0]?=some 45 then -(n:Int) else n)=s then some (if s.data[0]?=some 45 then -(n:Int) else n) else none
theorem zks:∀{l:List UInt8} {f:Bool} {n:Nat},(∀c∈l,qr c) -> jW f n l=some (qJ n l)
 |[],_,_,_=>rfl
 |c::l,f,n,h=>by
  have hc:=h c (by simp);have h45:¬(f=true /\ c=45):=by
   rintro ⟨_,rfl⟩;exact absurd hc (by decide)
  rw [jW,if_neg h45,if_pos hc];exact zks fun x hx=>h x (by simp [hx])
theorem zg3:∀{l:List UInt8} {f:Bool} {n m k:Nat},n < 10 ^ k -> jW f n l=some m -> m < 10 ^ (k+l.length)
 |[],_,_,_,_,h,e=>by simp only [jW]at e;cases e;simpa using h
 |c::l,f,n,m,k,h,e=>by
  have hp:10 ^ (k+1)=10 ^ k * 10:=Nat.pow_succ 10 k;rw [jW]at e;rw [List.length_cons,show k+(l.length+1)=(k+1)+l.length by omega];split at e
  ·exact zg3 (k:=k+1) (by omega) e
  ·split at e
   ·rename_i hd;unfold qr at hd;exact zg3 (k:=k+1) (by omega) e
   ·cases e
theorem zsq {s:ByteArray} (h18:s.size <=18):wc s (jW true 0 s.data.toList)=kQ s:=by
 have hsl:s.data.toList.length=s.size:=by simp
 cases hn:kQ s with
 |some m=>
  obtain ⟨hm,he⟩:=zfF.1 hn;have hl:s.data.toList=Lib.itoa m:=by rw [<- he,zaB]
  have h0:s.data[0]?=s.data.toList[0]?:=by simp
  unfold wc;rw [h0,hl];unfold Lib.itoa;unfold inI at hm;split
  ·rename_i hneg;obtain ⟨i1,i2,i3⟩:=wv m.natAbs;have e1:jW true 0 (45::Lib.decDigits m.natAbs)=some m.natAbs:=by
    rw [jW,if_pos ⟨rfl,rfl⟩,zks i1,i2]
   have e2: -(m.natAbs:Int)=m:=by omega
   simp [e1,e2,he]
  ·rename_i hneg;obtain ⟨i1,i2,i3⟩:=wv m.toNat;rw [zks i1,i2];have e3:¬(Lib.decDigits m.toNat)[0]?=some 45:=by
    intro h;have:=i1 45 (List.mem_of_getElem? h);exact absurd this (by decide)
   have e2:(m.toNat:Int)=m:=by omega
   simp only [Option.bind_some,if_neg e3,e2,he,if_true]
 |none=>
  rw [zfZ]at hn;unfold wc;cases hs:jW true 0 s.data.toList with
  |none=>rfl
  |some n=>
   have hlt:=zg3 (k:=0) (by omega) hs;have hpow:10 ^ (0+s.data.toList.length) <=10 ^ 18:=Nat.pow_le_pow_right (by omega) (by omega);simp only [Option.bind_some];rw [if_neg];apply hn;unfold inI;split<;>omega
section
variable {S:AS}
theorem zeR {s:ByteArray} {i:Nat} {b:UInt8} (h:s.data.toList[i]?=some b):pev .indexS [.sc (.string s),.sc (.int .i64 (i:Int))]=some (.sc (.int .u8 (b.toNat:Int))):=by
 have h':s.data[i]?=some b:=by simpa using h
 simp [pev,h']
set_option maxHeartbeats 1000000 in
theorem s88 {t:T}:call 88 [.agg t.cells] S=some (yQ (kD t),S):=by
 rw [zh a88 rfl (by simp) rfl];unfold kD;cases hw:j0 t with
 |none=>simp [f88,zev,s86,hw,ju,yQ]
 |some s=>
  simp only [Option.bind_some];by_cases h0:s=⟨#[]⟩
  ·subst h0;have:kQ (⟨#[]⟩:ByteArray)=none:=by
    rw [zfZ];intro n hn he;have:=congrArg (fun x=>x.data.toList) he;simp only [zaB]at this;unfold Lib.itoa at this;split at this
    ·simp at this
    ·exact (wv _).2.2 this
   simp [f88,zev,s86,hw,ju,yQ,this]
  ·by_cases h18:s.size <=18
   ·rw [if_pos h18,<- zsq h18];have h18':¬(18:Int) < s.size:=by omega
    have hsl:s.data.toList.length=s.size:=by simp
    simp only [f88];simp [-zg,zev,s86,hw,ju,h0,h18'];refine jY (α:=Nat×Nat) (R:=fun a r=>zW S r=some (yQ (wc s (jW (decide (a.1=0)) a.2 (s.data.toList.drop a.1))),S)) (fun a e rg S'=>a.1 <=s.size /\ a.2 < 10 ^ a.1 /\ e 4=.sc (.string s) /\ e 6=.sc (.int .i64 (a.2:Nat)) /\ e 7=.sc (.int .i64 (a.1:Nat))) (fun a=>s.size - a.1) ?_ (0,0) _ _ _ ?_;rotate_left
    ·simp
    intro kk hkk ⟨i,n⟩ e rg S' ⟨hi,hlt,h4,h6,h7⟩ ih;simp only at hi hlt h6 h7 ih ⊢;by_cases hc:i < s.size
    ·have hc':(i:Int) < s.size:=by omega
     obtain ⟨b,hb⟩:∃b,s.data.toList[i]?=some b:=⟨s.data.toList[i],by simp [hsl,hc]⟩;have hdrop:s.data.toList.drop i=b::s.data.toList.drop (i+1):=by
      obtain ⟨hlt',rfl⟩:=List.getElem?_eq_some_iff.1 hb;exact List.drop_eq_getElem_cons hlt'
     have hix:=zeR hb;have w2:IntKind.i64.wrap ((i:Int)+1)=((i+1:Nat):Int):=w64 (by omega);have hp:10 ^ (i+1)=10 ^ i * 10:=Nat.pow_succ 10 i;have hpow:10 ^ (i+1) <=10 ^ 18:=Nat.pow_le_pow_right (by omega) (by omega);by_cases hm:i=0 /\ b=45
     ·obtain ⟨rfl,rfl⟩:=hm;have e1:jW (decide (0=0)) n (45::s.data.toList.drop (0+1))=jW (decide (0+1=0)) n (s.data.toList.drop (0+1)):=by
       rw [jW,if_pos ⟨by simp,rfl⟩];rfl
      have hix0:pev .indexS [.sc (.string s),.sc (.int .i64 0)]=some (.sc (.int .u8 45)):=hix;simp [-zg,zaX,h4,h6,h7,hc',hc,hix0];have w3:IntKind.i64.wrap 1=1:=rfl;refine ih (0+1,n) _ _ _ (by simp only;omega) (fun r h=>by rw [hdrop,e1];exact h) ?_;refine ⟨by simp only;omega,by simp only;omega,by simp [h4],by simp [h6],by simp [w3]⟩
     ·by_cases hd:qr b
      ·have e1:jW (decide (i=0)) n (b::s.data.toList.drop (i+1))=jW (decide (i+1=0)) (n * 10+(b.toNat - 48)) (s.data.toList.drop (i+1)):=by
        rw [jW,if_neg (by simpa using hm),if_pos hd];rfl
       unfold qr at hd;have q1:¬((b.toNat:Int) < 48):=by omega
       have q2:¬((57:Int) < b.toNat):=by omega
       have q3:¬((b.toNat:Int)=45):=by omega
       have w4:IntKind.i64.wrap ((n:Int) * 10)=(n:Int) * 10:=w64 (by omega);have w5:IntKind.i64.wrap (b.toNat:Int)=b.toNat:=w64 (by omega);have w6:IntKind.i64.wrap ((n:Int) * 10+b.toNat)=(n:Int) * 10+b.toNat:=w64 (by omega);have w7:IntKind.i64.wrap ((n:Int) * 10+b.toNat - 48)=((n * 10+(b.toNat - 48):Nat):Int):=by rw [w64 (by omega)];omega
       by_cases hi0:i=0
       ·subst hi0;have hix0:pev .indexS [.sc (.string s),.sc (.int .i64 0)]=some (.sc (.int .u8 b.toNat)):=hix;have w3:IntKind.i64.wrap 1=1:=rfl;simp [-zg,zaX,h4,h6,h7,hc',hc,hix0,q1,q2,q3,w4,w5,w6,w7];refine ih (0+1,n * 10+(b.toNat - 48)) _ _ _ (by simp only;omega) (fun r h=>by rw [hdrop,e1];exact h) ?_;refine ⟨by simp only;omega,by simp only;omega,by simp [h4],by simp,by simp [w3]⟩
       ·have hi0':¬(i:Int)=0:=by omega
        have hdf:decide (i=0)=false:=by simp [hi0]
        rw [hdf]at ih e1;simp [-zg,zaX,h4,h6,h7,hc',hi0,hix,q1,q2,w4,w5,w6,w7,w2];refine ih (i+1,n * 10+(b.toNat - 48)) _ _ _ (by simp only;omega) (fun r h=>by rw [hdrop,e1];exact h) ?_;refine ⟨by simp only;omega,by simp only;omega,by simp [h4],by simp,by simp⟩
      ·have e1:jW (decide (i=0)) n (b::s.data.toList.drop (i+1))=none:=by
        rw [jW,if_neg (by simpa using hm),if_neg hd]
       rw [hdrop,e1];unfold qr at hd;have q:(b.toNat:Int) < 48 \/ ¬((b.toNat:Int) < 48) /\ (57:Int) < b.toNat:=by omega
       have q3:i=0 -> ¬((b.toNat:Int)=45):=by
        intro h0 h1;apply hm;refine ⟨h0,UInt8.toNat_inj.1 ?_⟩;show b.toNat=45;omega
       by_cases hi0:i=0
       ·subst hi0;have q3:=q3 rfl;have hix0:pev .indexS [.sc (.string s),.sc (.int .i64 0)]=some (.sc (.int .u8 b.toNat)):=hix;rcases q with q|⟨q1,q2⟩
        ·simp [-zg,zaX,h4,h6,h7,hc',hc,hix0,q,q3];rw [hkk];simp [wc,yQ]
        ·simp [-zg,zaX,h4,h6,h7,hc',hc,hix0,q1,q2,q3];rw [hkk];simp [wc,yQ]
       ·rcases q with q|⟨q1,q2⟩
        ·simp [-zg,zaX,h4,h6,h7,hc',hi0,hix,q];rw [hkk];simp [wc,yQ]
        ·simp [-zg,zaX,h4,h6,h7,hc',hi0,hix,q1,q2];rw [hkk];simp [wc,yQ]
    ·have hi':i=s.size:=by omega
     subst hi';have hnil:s.data.toList.drop s.size=[]:=List.drop_eq_nil_of_le (by omega);rw [hnil];have e1:jW (decide (s.size=0)) n []=some n:=rfl;rw [e1];have hpos:0 < s.size:=by
      apply Classical.byContradiction;intro hn;exact h0 (ByteArray.size_eq_zero_iff.1 (by omega))
     obtain ⟨b,hb⟩:∃b,s.data.toList[0]?=some b:=⟨s.data.toList[0],by simp [hsl,hpos]⟩;have hix0:pev .indexS [.sc (.string s),.i 0]=some (.sc (.int .u8 b.toNat)):=zeR hb;have hb':s.data[0]?=some b:=by simpa using hb
     have hpow:10 ^ s.size <=10 ^ 18:=Nat.pow_le_pow_right (by omega) (by omega);unfold wc;rw [hb'];simp [-zg,zaX,h4,h6,h7];rw [hkk];by_cases h45:b=45
     ·subst h45;have w4:IntKind.i64.wrap (-(n:Int))= -(n:Int):=w64 (by omega);have w4':IntKind.i64.wrap (0 - (n:Int))= -(n:Int):=by rw [w64 (by omega)];omega
      have e139:=fun S=>@zcX S (-(n:Int)) (by omega) (by omega);have hix1:pev .indexS [.sc (.string s),.i 0]=some (.sc (.int .u8 45)):=hix0;by_cases he:zq (-(n:Int))=s
      ·simp [h4,h6,hix1,w4,w4',e139,he,yQ]
      ·simp [h4,h6,hix1,w4,w4',e139,he,yQ]
     ·have h45':¬((b.toNat:Int)=45):=by
       intro h;apply h45;apply UInt8.toNat_inj.1;show b.toNat=45;omega
      have e139:=fun S=>@zcX S (n:Int) (by omega) (by omega);by_cases he:zq (n:Int)=s
      ·simp [h4,h6,hix0,h45,h45',e139,he,yQ]
      ·simp [h4,h6,hix0,h45,h45',e139,he,yQ]
   ·rw [if_neg h18];have h18':(18:Int) < s.size:=by omega
    simp [f88,zev,s86,hw,ju,yQ,h0,h18']
end
theorem zGR {ws:List ByteArray} {s:ByteArray}:zS (ws++[s])=zS ws++[[.sc (.string s)]]:=by simp [zS]
section
variable {S:AS}
end
end Abs
