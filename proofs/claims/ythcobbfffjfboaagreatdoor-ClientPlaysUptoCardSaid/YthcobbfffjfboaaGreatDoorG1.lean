/- Calls of the program AA; loops; what a call gives back. -/
import Derived.Test.YthcobbfffjfboaaGreatDoorPr
import Derived.Test.YthcobbfffjfboaaGreatDoorE4
set_option linter.unusedVariables false
set_option linter.unusedSimpArgs false
set_option linter.unusedSectionVars false
namespace Abs
open Go
abbrev Calm (k:Nat) (f:AFunc):Prop:=AA.ext k=none∧AA.funcs k=some f∧AA.mode k=.calm
abbrev Keep (k:Nat) (f:AFunc):Prop:=AA.ext k=none∧AA.funcs k=some f∧AA.mode k=.keep
section
variable {S:AS} {k:Nat} {f:AFunc} {args:List AV}
theorem call_calm (h:Calm k f) (hr:args.any AV.isReg=false) (hz:nrmL args=args) (hl:Nat.ble args.length f.ntmps=true):
 call k args S=calmR S (fin f.res (exec AA f.body (st f.ntmps (ini args) (fun _=>none) {S with ro:=S.n}) [])):=
 docall_calm h.1 h.2.1 h.2.2 hr hz (Nat.le_of_ble_eq_true hl)
theorem call_calm' (h:Calm k f) {args':List AV} (hr:args.any AV.isReg=false) (hz:nrmL args=args') (hl:Nat.ble args'.length f.ntmps=true):
 call k args S=calmR S (fin f.res (exec AA f.body (st f.ntmps (ini args') (fun _=>none) {S with ro:=S.n}) [])):=
 docall_calm h.1 h.2.1 h.2.2 hr hz (Nat.le_of_ble_eq_true hl)
theorem call_keep (h:Keep k f) (hr:args.any AV.isReg=false) (hl:Nat.ble args.length f.ntmps=true):
 call k args S=fin f.res (exec AA f.body (st f.ntmps (ini args) (fun _=>none) S) []):=
 docall_keep h.1 h.2.1 h.2.2 hr (Nat.le_of_ble_eq_true hl)
theorem call_ext {g:List AV→AS→Option (AV×AS)} (h:AA.ext k=some g) (hr:args.any AV.isReg=false):call k args S=g args S:=docall_ext h hr
theorem calmR_some {S S':AS} {v:AV}:calmR S (some (v,S'))=(S'.frzTo S.n 2 v).bind fun v=>if v.pure then some (v,S) else none:=rfl
theorem loop_gen {α:Type} {tm:List Nat} {c:ACode} {N:Nat} {ks:List Kn} {res:List ARes} (Inv:α→(Nat→AV)→(Nat→Option (List AV))→AS→Prop) (μ:α→Nat) {R:α→Option (AV×AS)→Prop}
 (h:∀(kk:List Kn),kk=.loop tm [] c::ks→∀a e rg S,Inv a e rg S→(∀a' e' rg' S',μ a' < μ a→(∀r,R a' r→R a r)→Inv a' e' rg' S'→R a (fin res (unw AA (some (.normal,st N e' rg' S')) kk)))→R a (fin res (exec AA c (st N (fgt tm e) rg S) kk))):
 ∀a e rg S,Inv a e rg S→R a (fin res (exec AA (.loop tm [] c) (st N e rg S) ks)):=by
 have key:∀n a,μ a=n→∀e rg S,Inv a e rg S→R a (fin res (exec AA (.loop tm [] c) (st N e rg S) ks)):=by
  intro n
  induction n using Nat.strongRecOn with
  |_ n ih=>
   intro a hn e rg S hi
   rw [exec_loop]
   refine h _ rfl a e rg S hi fun a' e' rg' S' hlt hr hi'=>?_
   rw [unw_loop]
   exact hr _ (ih (μ a') (hn▸hlt) a' rfl e' rg' S' hi')
 exact fun a e rg S hi=>key _ a rfl e rg S hi
def okR (rgs:List Nat):AV→Bool
 | .reg r _=>!rgs.contains r
 |_=>true
def NQ (tm rgs:List Nat) (e:Nat→AV):Prop:=∀n,(tm.contains n ||okR rgs (e n))=true
theorem okR_of {rgs:List Nat} {v:AV} (h:v.isReg=false):okR rgs v=true:=by cases v<;>first|rfl|(simp [AV.isReg]at h)
theorem NQ_put {tm rgs:List Nat} {e:Nat→AV} {d:Nat} {v:AV} (h:NQ tm rgs e) (hd:(tm.contains d ||okR rgs v)=true):NQ tm rgs (put e d v):=by
 intro n
 rw [put_apply]
 split
 ·rename_i h1;subst h1;exact hd
 ·exact h n
theorem NQ_fgt {tm rgs:List Nat} {e:Nat→AV} (h:NQ tm rgs e):NQ tm rgs (fgt tm e):=by
 intro n
 rw [fgt_apply]
 split
 ·rename_i h1;rw [h1];rfl
 ·exact h n
theorem NQ_ini {tm rgs:List Nat} {args:List AV} (h:args.any AV.isReg=false):NQ tm rgs (ini args):=by
 intro n
 unfold ini
 rw [List.getD_eq_getElem?_getD]
 cases hg:args[n]? with
 |none=>simp [okR]
 |some v=>
  rw [List.any_eq_false]at h
  have:=h v (List.mem_of_getElem? hg)
  simp [okR_of (rgs:=rgs) (by simpa using this)]
theorem forget_rq {tm rgs:List Nat} {N:Nat} {e:Nat→AV} {rg:Nat→Option (List AV)} {S:AS} (h:NQ tm rgs e):forget tm rgs (st N e rg S)=some (st N (fgt tm e) (fgtR rgs rg) S):=by
 unfold forget st
 have h0:((envL N e).zipIdx.map fun p=>if tm.contains p.2 then AV.junk else p.1)=envL N (fgt tm e):=by
  apply List.ext_getElem?
  intro i
  unfold envL fgt
  rw [List.getElem?_map,List.getElem?_zipIdx,List.getElem?_map,List.getElem?_map]
  by_cases hi:i < N
  ·rw [List.getElem?_range hi];simp
  ·rw [List.getElem?_eq_none (by simpa using hi)];rfl
 simp only
 rw [h0]
 refine (if_neg fun hh=>?_).trans rfl
 obtain ⟨x,hx1,hx⟩:=List.any_eq_true.1 hh
 unfold envL at hx1
 obtain ⟨n,_,rfl⟩:=List.mem_map.1 hx1
 rw [fgt_apply]at hx
 by_cases hn:tm.contains n=true
 ·rw [if_pos hn]at hx;simp at hx
 ·rw [if_neg hn]at hx
  have:=h n
  cases hv:e n with
  |reg r c=>
   rw [hv]at hx this
   simp only [okR]at this
   simp at hx hn this
   rcases this with h1|h1
   ·exact hn h1
   ·exact h1 hx
  |_=>rw [hv]at hx;simp at hx
theorem loop_genR {α:Type} {tm rgs:List Nat} {c:ACode} {N:Nat} {ks:List Kn} {res:List ARes} (Inv:α→(Nat→AV)→(Nat→Option (List AV))→AS→Prop) (μ:α→Nat) {R:α→Option (AV×AS)→Prop}
 (hnr:∀a e rg S,Inv a e rg S→NQ tm rgs e)
 (h:∀(kk:List Kn),kk=.loop tm rgs c::ks→∀a e rg S,Inv a e rg S→(∀a' e' rg' S',μ a' < μ a→(∀r,R a' r→R a r)→Inv a' e' rg' S'→R a (fin res (unw AA (some (.normal,st N e' rg' S')) kk)))→R a (fin res (exec AA c (st N (fgt tm e) (fgtR rgs rg) S) kk))):
 ∀a e rg S,Inv a e rg S→R a (fin res (exec AA (.loop tm rgs c) (st N e rg S) ks)):=by
 have key:∀n a,μ a=n→∀e rg S,Inv a e rg S→R a (fin res (exec AA (.loop tm rgs c) (st N e rg S) ks)):=by
  intro n
  induction n using Nat.strongRecOn with
  |_ n ih=>
   intro a hn e rg S hi
   have he:exec AA (.loop tm rgs c) (st N e rg S) ks=exec AA c (st N (fgt tm e) (fgtR rgs rg) S) (.loop tm rgs c::ks):=by
    unfold exec;rw [run_eq]
    simp only [stepR,forget_rq (hnr a e rg S hi),Option.bind_some]
    rfl
   rw [he]
   refine h _ rfl a e rg S hi fun a' e' rg' S' hlt hr hi'=>?_
   rw [unw_loop]
   exact hr _ (ih (μ a') (hn▸hlt) a' rfl e' rg' S' hi')
 exact fun a e rg S hi=>key _ a rfl e rg S hi
theorem fgtR_apply {rgs:List Nat} {rg:Nat→Option (List AV)} {n:Nat}:fgtR rgs rg n=if rgs.contains n then none else rg n:=rfl
end
theorem frzL_mapO {o:Nat→Nat→Nat→Nat→Option (List (List AV))}:∀{l:List AV},frzL o l=mapO (AV.frz o) l
 |[]=>rfl
 |a::l=>by simp only [frzL,mapO,frzL_mapO]
theorem frzR_mapO {o:Nat→Nat→Nat→Nat→Option (List (List AV))}:∀{l:List (List AV)},frzR o l=mapO (mapO (AV.frz o)) l
 |[]=>rfl
 |a::l=>by simp only [frzR,mapO,frzL_mapO,frzR_mapO]
section
variable {S:AS} {b d:Nat}
@[simp] theorem mapO_nil {α β:Type} {f:α→Option β}:mapO f []=some []:=rfl
@[simp] theorem mapO_cons {α β:Type} {f:α→Option β} {a:α} {l:List α}:mapO f (a::l)=(f a).bind fun b=>(mapO f l).map (b::·):=rfl
@[simp] theorem frzTo_sc {v:Value}:S.frzTo b d (.sc v)=some (.sc v):=by cases d<;>rfl
@[simp] theorem frzTo_opq:S.frzTo b d .opq=some .opq:=by cases d<;>rfl
@[simp] theorem frzTo_agg {cs:List AV}:S.frzTo b d (.agg cs)=(mapO (S.frzTo b d) cs).map .agg:=by cases d<;>(simp only [AS.frzTo,AV.frz,frzL_mapO])
@[simp] theorem frzTo_tup {cs:List AV}:S.frzTo b d (.tup cs)=(mapO (S.frzTo b d) cs).map .tup:=by cases d<;>(simp only [AS.frzTo,AV.frz,frzL_mapO])
@[simp] theorem frzTo_lst {z:Nat} {f:Bool} {xs:List (List AV)}:S.frzTo b d (.lst z f xs)=(mapO (mapO (S.frzTo b d)) xs).map (lstN z):=by cases d<;>(simp only [AS.frzTo,AV.frz,frzR_mapO])
@[simp] theorem frzTo_lstN {z:Nat} {xs:List (List AV)}:S.frzTo b d (lstN z xs)=(mapO (mapO (S.frzTo b d)) xs).map (lstN z):=by
 cases xs with
 |nil=>cases d<;>rfl
 |cons x xs=>unfold lstN;rw [frzTo_lst];rfl
theorem frzTo_arr {id sz off n:Nat} {lim:Option Nat} {rs:List (List AV)} (h:S.slice b id sz off n=some rs):S.frzTo b (d+1) (.arr id sz off n lim)=(mapO (mapO (S.frzTo b d)) rs).map (lstN sz):=by
 simp only [AS.frzTo,AV.frz,h,Option.bind_some]
end
def retV:AV→Option AV
 | .reg _ _=>none
 |v=>some v
@[simp] theorem retV_if {v:AV}:retV v=if v.isReg=true then none else some v:=by cases v<;>rfl
@[simp] theorem retR_tmp {t N:Nat} {e:Nat→AV} {rg:Nat→Option (List AV)} {S:AS}:retR (.tmp t) N e rg S=retV (if t < N then e t else .junk):=by
 simp only [retR]
 generalize (if t < N then e t else AV.junk)=v
 cases v<;>rfl
@[simp] theorem retR_cell {t sz N:Nat} {g:Bool} {e:Nat→AV} {rg:Nat→Option (List AV)} {S:AS}:retR (.cell t sz g) N e rg S=
 match (if t < N then e t else .junk) with
 | .reg r c=>(rg r).bind fun cs=>getCells cs c sz g
 | .iptr cs=>getCells cs 0 sz g
 | .ptr id row c=>match S.heap id with
   |some (.rows _ rs)=>(rs[row]?).bind fun cs=>getCells cs c sz g
   |_=>none
 |_=>none:=rfl
def okR0 (rgs:List Nat) (v:AV):Bool:=okR rgs v
@[simp] theorem okR_if {rgs:List Nat} {v:AV}:okR rgs v=if v.isReg=true then okR0 rgs v else true:=by cases v<;>rfl
@[simp] theorem okR0_reg {rgs:List Nat} {r c:Nat}:okR0 rgs (.reg r c)=!rgs.contains r:=rfl
@[simp] theorem isReg_reg {r c:Nat}:(AV.reg r c).isReg=true:=rfl
attribute [simp] calmR_some AV.pure pureL retRs fillA fillR nrmL AV.nrm setCells put_apply upd_apply fgtR_apply
inductive T:Type
 |mk (kind:Int) (name:ByteArray) (kids:List T)
 deriving Inhabited
def T.kind:T→Int| .mk k _ _=>k
def T.name:T→ByteArray| .mk _ n _=>n
def T.kids:T→List T| .mk _ _ l=>l
mutual
def T.cells:T→List AV
 | .mk k n l=>[.sc (.int .i64 k),.sc (.string n),lstN 3 (rowsT l)]
def rowsT:List T→List (List AV)
 |[]=>[]
 |t::l=>t.cells::rowsT l
end
theorem rowsT_map:∀{l:List T},rowsT l=l.map T.cells
 |[]=>rfl
 |t::l=>by rw [rowsT,rowsT_map];rfl
def lstT (l:List T):AV:=lstN 3 (l.map T.cells)
theorem cells_T (t:T):t.cells=[.sc (.int .i64 t.kind),.sc (.string t.name),lstT t.kids]:=by
 obtain ⟨k,n,l⟩:=t
 rw [T.cells,rowsT_map];rfl
mutual
theorem T.frz_cells (o:Nat→Nat→Nat→Nat→Option (List (List AV))):∀t:T,frzL o t.cells=some t.cells
 | .mk k n l=>by
   rw [T.cells]
   simp only [frzL,AV.frz,lstN,Option.bind_some,rowsT_frz o l,Option.map_some]
   split<;>simp_all
theorem rowsT_frz (o:Nat→Nat→Nat→Nat→Option (List (List AV))):∀l:List T,frzR o (rowsT l)=some (rowsT l)
 |[]=>rfl
 |t::l=>by
  rw [rowsT]
  simp only [frzR,T.frz_cells o t,Option.bind_some,rowsT_frz o l,Option.map_some]
end
mutual
theorem T.pure_cells:∀t:T,pureL t.cells=true
 | .mk k n l=>by
   rw [T.cells]
   simp [pureL,AV.pure,lstN,rowsT_pure l]
theorem rowsT_pure:∀l:List T,pureR (rowsT l)=true
 |[]=>rfl
 |t::l=>by
  rw [rowsT]
  simp [pureR,T.pure_cells t,rowsT_pure l]
end
mutual
theorem T.nrm_cells:∀t:T,nrmL t.cells=t.cells
 | .mk k n l=>by
   rw [T.cells]
   simp only [nrmL,AV.nrm,lstN,rowsT_nrm l]
   cases l<;>rfl
theorem rowsT_nrm:∀l:List T,nrmR (rowsT l)=rowsT l
 |[]=>rfl
 |t::l=>by rw [rowsT,nrmR,T.nrm_cells t,rowsT_nrm l]
end
@[simp] theorem T.len_cells (t:T):t.cells.length=3:=by rw [cells_T];rfl
@[simp] theorem lstT_cell (l:List T):(lstT l).isCell=true:=rfl
@[simp] theorem lstT_reg (l:List T):(lstT l).isReg=false:=rfl
@[simp] theorem lstT_cells (l:List T):(lstT l).cells=[lstT l]:=rfl
@[simp] theorem T.cell_cells (t:T):t.cells.all AV.isCell=true:=by rw [cells_T];rfl
@[simp] theorem T.get0 (t:T):getCells t.cells 0 1 false=some (.sc (.int .i64 t.kind)):=by rw [cells_T];rfl
@[simp] theorem T.get1 (t:T):getCells t.cells 1 1 false=some (.sc (.string t.name)):=by rw [cells_T];rfl
@[simp] theorem T.get2 (t:T):getCells t.cells 2 1 false=some (lstT t.kids):=by rw [cells_T];rfl
@[simp] theorem T.get3 (t:T):getCells t.cells 0 3 true=some (.agg t.cells):=by rw [cells_T];rfl
@[simp] theorem T.tk0 (t:T):t.cells.take 1=[.sc (.int .i64 t.kind)]:=by rw [cells_T];rfl
@[simp] theorem T.tk1 (t:T):(t.cells.drop 1).take 1=[.sc (.string t.name)]:=by rw [cells_T];rfl
@[simp] theorem T.tk1' (t:T):t.cells.tail.take 1=[.sc (.string t.name)]:=by rw [cells_T];rfl
@[simp] theorem T.tk2 (t:T):(t.cells.drop 2).take 1=[lstT t.kids]:=by rw [cells_T];rfl
@[simp] theorem T.tk3 (t:T):t.cells.take 3=t.cells:=List.take_of_length_le (by simp)
@[simp] theorem T.fd0 (t:T):pev (.field 0 1 false) [.agg t.cells]=some (.sc (.int .i64 t.kind)):=by rw [cells_T];rfl
@[simp] theorem T.fd1 (t:T):pev (.field 1 1 false) [.agg t.cells]=some (.sc (.string t.name)):=by rw [cells_T];rfl
@[simp] theorem T.fd2 (t:T):pev (.field 2 1 false) [.agg t.cells]=some (lstT t.kids):=by rw [cells_T];rfl
@[simp] theorem lstT_len (l:List T):pev .lenL [lstT l]=some (.sc (.int .i64 l.length)):=by simp [pev,lstT,lstN]
theorem lstT_at {l:List T} {i:Nat} {t:T} (h:l[i]?=some t):pev (.iaddr 3) [lstT l,.sc (.int .i64 (i:Int))]=some (.iptr t.cells):=by
 have hne:l≠[]:=by rintro rfl;simp at h
 have:(l.map T.cells).isEmpty=false:=by cases l with|nil=>exact absurd rfl hne|cons _ _=>rfl
 simp [pev,lstT,lstN,this,h]
theorem lstT_rows (S:AS) (l:List T):rowsOf 3 S (lstT l)=some (l.map T.cells):=by
 cases l<;>simp [rowsOf,lstT,lstN]
theorem agg_frz (S:AS) (least d:Nat) (t:T):S.frzTo least d (.agg t.cells)=some (.agg t.cells):=by
 cases d<;>simp only [AS.frzTo,AV.frz,T.frz_cells,Option.map_some]
theorem agg_pure (t:T):(AV.agg t.cells).pure=true:=by simp [AV.pure,T.pure_cells]
theorem lst_frz (S:AS) (least d:Nat) (l:List T):S.frzTo least d (lstT l)=some (lstT l):=by
 unfold lstT
 rw [←rowsT_map]
 cases d<;>simp only [AS.frzTo,lstN,AV.frz,rowsT_frz,Option.map_some]<;>split<;>simp_all
theorem lst_pure (l:List T):(lstT l).pure=true:=by
 unfold lstT lstN;rw [←rowsT_map];simp [AV.pure,rowsT_pure]
@[simp] theorem lstT_nrm (l:List T):(lstT l).nrm=lstT l:=by
 unfold lstT lstN
 rw [AV.nrm,←rowsT_map,rowsT_nrm]
 unfold lstN
 cases l<;>rfl
@[simp] theorem lstT_nrm' (z:Nat) (f:Bool) (l:List T) (h:l≠[]→z=3):(AV.lst z f (l.map T.cells)).nrm=lstT l:=by
 rw [AV.nrm,←rowsT_map,rowsT_nrm,rowsT_map]
 unfold lstT lstN
 cases l with
 |nil=>rfl
 |cons t l=>rw [h (by simp)]
@[simp] theorem lstT_frz (o:Nat→Nat→Nat→Nat→Option (List (List AV))) (l:List T):(lstT l).frz o=some (lstT l):=by
 unfold lstT lstN
 rw [AV.frz,←rowsT_map,rowsT_frz]
 unfold lstN
 cases l<;>rfl
attribute [simp] T.nrm_cells T.frz_cells T.pure_cells lst_pure
@[simp] theorem frzTo_cells {S:AS} {b d:Nat} {t:T}:mapO (S.frzTo b d) t.cells=some t.cells:=by
 have h1:S.frzTo b d (lstT t.kids)=some (lstT t.kids):=by cases d<;>exact lstT_frz _ _
 rw [cells_T]
 simp only [mapO,h1,frzTo_sc,Option.bind_some,Option.map_some]
@[simp] theorem frzTo_T {S:AS} {b d:Nat} {l:List T}:S.frzTo b d (lstT l)=some (lstT l):=by cases d<;>exact lstT_frz _ _
@[simp] theorem frzTo_mapT {S:AS} {b d:Nat}:∀{l:List T},mapO (mapO (S.frzTo b d)) (l.map T.cells)=some (l.map T.cells)
 |[]=>rfl
 |t::l=>by simp only [List.map_cons,mapO,frzTo_cells,frzTo_mapT,Option.bind_some,Option.map_some]
def sRow (l:List ByteArray):List (List AV):=l.map fun s=>[.sc (.string s)]
def iRow (l:List Int):List (List AV):=l.map fun n=>[.sc (.int .i64 n)]
def lstS (l:List ByteArray):AV:=lstN 1 (sRow l)
def lstI (l:List Int):AV:=lstN 1 (iRow l)
theorem nrm_sRow:∀l:List ByteArray,nrmR (sRow l)=sRow l
 |[]=>rfl
 |s::l=>by
  have:=nrm_sRow l
  unfold sRow at this ⊢
  rw [List.map_cons,nrmR,this];rfl
theorem nrm_iRow:∀l:List Int,nrmR (iRow l)=iRow l
 |[]=>rfl
 |s::l=>by
  have:=nrm_iRow l
  unfold iRow at this ⊢
  rw [List.map_cons,nrmR,this];rfl
theorem frz_sRow (o:Nat→Nat→Nat→Nat→Option (List (List AV))):∀l:List ByteArray,frzR o (sRow l)=some (sRow l)
 |[]=>rfl
 |s::l=>by
  have:=frz_sRow o l
  unfold sRow at this ⊢
  rw [List.map_cons,frzR,this];rfl
theorem frz_iRow (o:Nat→Nat→Nat→Nat→Option (List (List AV))):∀l:List Int,frzR o (iRow l)=some (iRow l)
 |[]=>rfl
 |s::l=>by
  have:=frz_iRow o l
  unfold iRow at this ⊢
  rw [List.map_cons,frzR,this];rfl
theorem pure_sRow:∀l:List ByteArray,pureR (sRow l)=true
 |[]=>rfl
 |s::l=>by
  have:=pure_sRow l
  unfold sRow at this ⊢
  rw [List.map_cons,pureR,this];rfl
theorem pure_iRow:∀l:List Int,pureR (iRow l)=true
 |[]=>rfl
 |s::l=>by
  have:=pure_iRow l
  unfold iRow at this ⊢
  rw [List.map_cons,pureR,this];rfl
@[simp] theorem sRow_len (l:List ByteArray):(sRow l).length=l.length:=by simp [sRow]
@[simp] theorem iRow_len (l:List Int):(iRow l).length=l.length:=by simp [iRow]
theorem lstN_nrm {z:Nat} {xs:List (List AV)} (h:nrmR xs=xs):(lstN z xs).nrm=lstN z xs:=by
 unfold lstN
 rw [AV.nrm,h]
 unfold lstN
 cases xs<;>rfl
theorem lstN_frz {z:Nat} {xs:List (List AV)} {o:Nat→Nat→Nat→Nat→Option (List (List AV))} (h:frzR o xs=some xs):(lstN z xs).frz o=some (lstN z xs):=by
 unfold lstN
 rw [AV.frz,h]
 unfold lstN
 cases xs<;>rfl
@[simp] theorem lstS_nrm (l:List ByteArray):(lstS l).nrm=lstS l:=lstN_nrm (nrm_sRow l)
@[simp] theorem lstI_nrm (l:List Int):(lstI l).nrm=lstI l:=lstN_nrm (nrm_iRow l)
@[simp] theorem frzTo_S {S:AS} {b d:Nat} {l:List ByteArray}:S.frzTo b d (lstS l)=some (lstS l):=by cases d<;>exact lstN_frz (frz_sRow _ l)
@[simp] theorem frzTo_I {S:AS} {b d:Nat} {l:List Int}:S.frzTo b d (lstI l)=some (lstI l):=by cases d<;>exact lstN_frz (frz_iRow _ l)
@[simp] theorem frzTo_sRow {S:AS} {b d:Nat} {l:List ByteArray}:mapO (mapO (S.frzTo b d)) (sRow l)=some (sRow l):=by cases d<;>(rw [←frz_sRow _ l,frzR_mapO];rfl)
@[simp] theorem frzTo_iRow {S:AS} {b d:Nat} {l:List Int}:mapO (mapO (S.frzTo b d)) (iRow l)=some (iRow l):=by cases d<;>(rw [←frz_iRow _ l,frzR_mapO];rfl)
@[simp] theorem lstS_frz (o:Nat→Nat→Nat→Nat→Option (List (List AV))) (l:List ByteArray):(lstS l).frz o=some (lstS l):=lstN_frz (frz_sRow o l)
@[simp] theorem lstI_frz (o:Nat→Nat→Nat→Nat→Option (List (List AV))) (l:List Int):(lstI l).frz o=some (lstI l):=lstN_frz (frz_iRow o l)
@[simp] theorem lstS_pure (l:List ByteArray):(lstS l).pure=true:=by unfold lstS lstN;simp [AV.pure,pure_sRow]
@[simp] theorem lstI_pure (l:List Int):(lstI l).pure=true:=by unfold lstI lstN;simp [AV.pure,pure_iRow]
@[simp] theorem lstS_cell (l:List ByteArray):(lstS l).isCell=true:=rfl
@[simp] theorem lstI_cell (l:List Int):(lstI l).isCell=true:=rfl
@[simp] theorem lstS_reg (l:List ByteArray):(lstS l).isReg=false:=rfl
@[simp] theorem lstI_reg (l:List Int):(lstI l).isReg=false:=rfl
@[simp] theorem lstS_cells (l:List ByteArray):(lstS l).cells=[lstS l]:=rfl
@[simp] theorem lstI_cells (l:List Int):(lstI l).cells=[lstI l]:=rfl
@[simp] theorem lstS_len (l:List ByteArray):pev .lenL [lstS l]=some (.sc (.int .i64 l.length)):=by unfold lstS;rw [pev_lenLN,sRow_len]
@[simp] theorem lstI_len (l:List Int):pev .lenL [lstI l]=some (.sc (.int .i64 l.length)):=by unfold lstI;rw [pev_lenLN,iRow_len]
theorem lstS_at {l:List ByteArray} {i:Nat} {s:ByteArray} (h:l[i]?=some s):pev (.iaddr 1) [lstS l,.sc (.int .i64 (i:Int))]=some (.iptr [.sc (.string s)]):=by
 unfold lstS;rw [pev_iaddrN (by omega)];simp [sRow,h]
theorem lstI_at {l:List Int} {i:Nat} {s:Int} (h:l[i]?=some s):pev (.iaddr 1) [lstI l,.sc (.int .i64 (i:Int))]=some (.iptr [.sc (.int .i64 s)]):=by
 unfold lstI;rw [pev_iaddrN (by omega)];simp [iRow,h]
theorem lstN_rows (S:AS) (z:Nat) (xs:List (List AV)):rowsOf z S (lstN z xs)=some xs:=by
 cases xs<;>simp [rowsOf,lstN]
theorem lst_rowsOf (S:AS) (z:Nat) (f:Bool) (xs:List (List AV)):rowsOf z S (.lst z f xs)=some xs:=by simp [rowsOf]
theorem lstS_rows (S:AS) (l:List ByteArray):rowsOf 1 S (lstS l)=some (sRow l):=lstN_rows ..
theorem calm_sc {S S':AS} {v:Value}:calmR S (some (.sc v,S'))=some (.sc v,S):=by
 simp [calmR,AS.frzTo,AV.frz,AV.pure]
mutual
def T.same:T→T→Bool
 | .mk k n l,.mk k' n' l'=>decide (k=k') && decide (n=n') && sameL l l'
def sameL:List T→List T→Bool
 |[],[]=>true
 |a::l,b::m=>a.same b && sameL l m
 |_,_=>false
end
mutual
theorem T.same_iff:∀{a b:T},a.same b=true↔a=b
 | .mk k n l,.mk k' n' l'=>by
   simp only [T.same,Bool.and_eq_true,decide_eq_true_eq,T.mk.injEq,sameL_iff,and_assoc]
theorem sameL_iff:∀{l m:List T},sameL l m=true↔l=m
 |[],[]=>by simp [sameL]
 |[],_::_=>by simp [sameL]
 |_::_,[]=>by simp [sameL]
 |a::l,b::m=>by simp only [sameL,Bool.and_eq_true,List.cons.injEq,T.same_iff,sameL_iff]
end
mutual
def T.fits:T→Prop
 | .mk _ _ l=>l.length≤4611686018427387904∧fitsL l
def fitsL:List T→Prop
 |[]=>True
 |t::l=>t.fits∧fitsL l
end
theorem fitsL_mem:∀{l:List T},fitsL l→∀t∈l,t.fits
 |[],_,t,h=>by cases h
 |a::l,h,t,ht=>by
  rcases List.mem_cons.1 ht with rfl|ht
  ·exact h.1
  ·exact fitsL_mem h.2 t ht
theorem T.fits_kids:∀{t:T},t.fits→t.kids.length≤4611686018427387904∧∀u∈t.kids,u.fits
 | .mk _ _ l,h=>⟨h.1,fitsL_mem h.2⟩
@[simp] theorem T.fits_mk {k:Int} {n:ByteArray} {l:List T}:(T.mk k n l).fits↔l.length≤4611686018427387904∧fitsL l:=Iff.rfl
@[simp] theorem fitsL_nil:fitsL []:=trivial
@[simp] theorem fitsL_cons {t:T} {l:List T}:fitsL (t::l)↔t.fits∧fitsL l:=Iff.rfl
mutual
def T.nsz (b:Nat):T→Prop
 | .mk _ n l=>n.size≤b∧nszL b l
def nszL (b:Nat):List T→Prop
 |[]=>True
 |t::l=>t.nsz b∧nszL b l
end
@[simp] theorem T.nsz_mk {b:Nat} {k:Int} {n:ByteArray} {l:List T}:(T.mk k n l).nsz b↔n.size≤b∧nszL b l:=Iff.rfl
@[simp] theorem nszL_nil {b:Nat}:nszL b []:=trivial
@[simp] theorem nszL_cons {b:Nat} {t:T} {l:List T}:nszL b (t::l)↔t.nsz b∧nszL b l:=Iff.rfl
theorem T.same_def:∀(a b:T),a.same b=(decide (a.kind=b.kind) && decide (a.name=b.name) && sameL a.kids b.kids)
 | .mk _ _ _,.mk _ _ _=>rfl
section
theorem same10_loop {a b:T} {rg:Nat→Option (List AV)} {S:AS} {ks:List Kn} (h2:rg 2=some a.cells) (h3:rg 3=some b.cells)
 (hl:a.kids.length=b.kids.length) (hb:a.kids.length≤4611686018427387904)
 (ih:∀t∈a.kids,∀u,call 61 [.agg t.cells,.agg u.cells] S=some (.sc (.bool (t.same u)),S))
 (hf:∀e,e 4=.sc (.bool false)→fin [.tmp 4] (unw AA (some (.ret,st 48 e rg S)) ks)=some (.sc (.bool false),S))
 (hk:∀e,fin [.tmp 4] (unw AA (some (.exit 0,st 48 e rg S)) ks)=some (.sc (.bool true),S)):
 ∀(n i:Nat) (e:Nat→AV) (tm:List Nat),n+i=a.kids.length→tm=[4,6,28,29,30,31,32,33,34,35,36,37,38,39,40,41,42,43,44,45,46,47]→e 2=.reg 2 0→e 3=.reg 3 0→e 5=.sc (.int .i64 i)→
  fin [.tmp 4] (exec AA (.loop tm [] f61_l0) (st 48 e rg S) ks)=some (.sc (.bool (sameL (a.kids.drop i) (b.kids.drop i))),S):=by
 intro n
 induction n with
 |zero=>
  intro i e tm hn htm h2' h3' h5
  rw [exec_loop]
  generalize hkk:Kn.loop tm [] f61_l0::ks=kk
  have hc:¬(i:Int) < a.kids.length:=by omega
  simp [f61_l0,put_apply,htm,h2',h3',h5,h2,hc]
  rw [←hkk];simp
  rw [hk,List.drop_eq_nil_of_le (by omega),List.drop_eq_nil_of_le (by omega)]
  rfl
 |succ n ihn=>
  intro i e tm hn htm h2' h3' h5
  rw [exec_loop]
  generalize hkk:Kn.loop tm [] f61_l0::ks=kk
  have hc:(i:Int) < a.kids.length:=by omega
  have hi:i < a.kids.length:=by omega
  have hi':i < b.kids.length:=by omega
  obtain ⟨t,ht⟩:∃t,a.kids[i]?=some t:=⟨a.kids[i],by simp [hi]⟩
  obtain ⟨u,hu⟩:∃u,b.kids[i]?=some u:=⟨b.kids[i],by simp [hi']⟩
  have hd:sameL (a.kids.drop i) (b.kids.drop i)=(t.same u && sameL (a.kids.drop (i+1)) (b.kids.drop (i+1))):=by
   obtain ⟨_,e1⟩:=List.getElem?_eq_some_iff.1 ht
   obtain ⟨_,e2⟩:=List.getElem?_eq_some_iff.1 hu
   rw [List.drop_eq_getElem_cons hi,List.drop_eq_getElem_cons hi',e1,e2];rfl
  have hs:=ih t (List.mem_of_getElem? ht) u
  have w1:IntKind.i64.wrap ((i:Int)+1)=((i+1:Nat):Int):=w64 (by omega)
  rw [hd]
  cases hsm:t.same u with
  |false=>
   rw [hsm]at hs
   simp [f61_l0,put_apply,htm,h2',h3',h5,h2,h3,hc,lstT_at ht,lstT_at hu,hs]
   rw [←hkk];simp
   exact hf _ (by simp [put_apply])
  |true=>
   rw [hsm]at hs
   simp [f61_l0,put_apply,htm,h2',h3',h5,h2,h3,hc,lstT_at ht,lstT_at hu,hs,w1]
   rw [←hkk,unw_loop]
   exact ihn (i+1) _ tm (by omega) htm (by simp [put_apply,htm,h2']) (by simp [put_apply,htm,h3']) (by simp [put_apply])
theorem T.kid_lt {t:T}:∀{a:T},t∈a.kids→sizeOf t < sizeOf a
 | .mk _ _ l,h=>by
   have:=List.sizeOf_lt_of_mem (show t∈l from h)
   simp only [T.mk.sizeOf_spec];omega
theorem same10':∀(n:Nat) (a b:T) (S:AS),sizeOf a < n→a.fits→call 61 [.agg a.cells,.agg b.cells] S=some (.sc (.bool (a.same b)),S)
 |0,_,_,_,h,_=>by omega
 |n+1,a,b,S,hn,hfit=>by
  obtain ⟨hlen,hkids⟩:=T.fits_kids hfit
  rw [call_calm a61 rfl (by simp) rfl]
  simp only [f61]
  rw [T.same_def]
  by_cases h1:a.kind=b.kind
  ·by_cases h2:a.name=b.name
   ·by_cases h3:a.kids.length=b.kids.length
    ·simp [f61b,put_apply,upd_apply,h1,h2,h3]
     refine (congrArg (calmR S) (same10_loop (a:=a) (b:=b) (by simp [upd_apply]) (by simp [upd_apply]) h3 hlen
      (fun t ht u=>same10' n t u _ (by have:=T.kid_lt ht;omega) (hkids t ht)) ?_ ?_ a.kids.length 0 _ _ (by omega) rfl (by simp [put_apply]) (by simp [put_apply]) (by simp [put_apply]))).trans ?_
     ·intro e he;simp [he,retRs,retR]
     ·intro e;simp [put_apply,retRs,retR]
     ·simp [calm_sc]
    ·have hs:sameL a.kids b.kids=false:=by
      rw [Bool.eq_false_iff];intro h;exact h3 (by rw [sameL_iff.1 h])
     have h3':¬(a.kids.length:Int)=b.kids.length:=by omega
     simp [f61b,put_apply,upd_apply,h1,h2,h3,h3',hs,retRs,retR,calm_sc]
   ·simp [f61b,put_apply,upd_apply,h1,h2,retRs,retR,calm_sc]
  ·simp [f61b,put_apply,upd_apply,h1,retRs,retR,calm_sc]
@[simp] theorem s61 {a b:T} {S:AS} (h:a.fits):call 61 [.agg a.cells,.agg b.cells] S=some (.sc (.bool (a.same b)),S):=same10' _ a b S (Nat.lt_succ_self _) h
@[simp] theorem T.same_self (a:T):a.same a=true:=T.same_iff.2 rfl
end
theorem mapO_frz {S:AS} {least d:Nat}:∀{l:List T},mapO (mapO (S.frzTo least d)) (l.map T.cells)=some (l.map T.cells)
 |[]=>rfl
 |t::l=>by
  have h:mapO (S.frzTo least d) t.cells=some t.cells:=by
   rw [cells_T]
   simp only [mapO,lst_frz]
   cases d<;>rfl
  simp only [List.map_cons,mapO,h,mapO_frz,Option.bind_some,Option.map_some]
theorem calm_T {S S':AS} {t:T}:calmR S (some (.agg t.cells,S'))=some (.agg t.cells,S):=by
 simp [calmR,agg_frz,agg_pure]
theorem calm_mk_lst {S S':AS} {k:Int} {n:ByteArray} {z:Nat} {f:Bool} {l:List T} (hz:l≠[]→z=3):calmR S (some (.agg [.sc (.int .i64 k),.sc (.string n),.lst z f (l.map T.cells)],S'))=some (.agg (T.mk k n l).cells,S):=by
 have e:(T.mk k n l).cells=[.sc (.int .i64 k),.sc (.string n),lstT l]:=cells_T _
 have h:S'.frzTo S.n 2 (.agg [.sc (.int .i64 k),.sc (.string n),.lst z f (l.map T.cells)])=some (.agg (T.mk k n l).cells):=by
  rw [e]
  simp only [AS.frzTo,AV.frz,frzL,Option.bind_some]
  rw [←rowsT_map,rowsT_frz]
  simp only [Option.map_some,Option.bind_some,lstT,←rowsT_map]
  cases l with
  |nil=>rfl
  |cons t l=>rw [hz (by simp)]
 simp only [calmR,Option.bind_some,h,agg_pure,if_true]
theorem calm_mk_arr {S S':AS} {k:Int} {n:ByteArray} {id off len:Nat} {lim:Option Nat} {l:List T} (hs:S'.slice S.n id 3 off len=some (l.map T.cells)):calmR S (some (.agg [.sc (.int .i64 k),.sc (.string n),.arr id 3 off len lim],S'))=some (.agg (T.mk k n l).cells,S):=by
 have e:(T.mk k n l).cells=[.sc (.int .i64 k),.sc (.string n),lstT l]:=cells_T _
 have h:S'.frzTo S.n 2 (.agg [.sc (.int .i64 k),.sc (.string n),.arr id 3 off len lim])=some (.agg (T.mk k n l).cells):=by
  rw [e]
  simp only [AS.frzTo,AV.frz,frzL,Option.bind_some,hs,Option.map_some]
  have:=@mapO_frz S' S.n 1 l
  simp only [AS.frzTo,AV.frz]at this
  rw [this];rfl
 simp only [calmR,Option.bind_some,h,agg_pure,if_true]
section
variable {S:AS}
@[simp] theorem s161 (s:ByteArray):call 161 [.sc (.string s)] S=some (.agg (T.mk 1 s []).cells,S):=by
 rw [call_calm a161 rfl (by simp) rfl]
 have:=@calm_mk_lst S {S with ro:=S.n} 1 s 0 true [] (by simp)
 simp only [List.map_nil]at this
 simp [f161,f161b,put_apply,upd_apply,setCells,retRs,retR,fillA,this]
def eqB (s:ByteArray):ByteArray:=⟨#[61]⟩++s
def tWord (s:ByteArray):T:=.mk 1 (eqB s) []
theorem pev_eqs {s:ByteArray} (hs:s.size≤4611686018427387904):pev (.bin .add) [AV.s ⟨#[61]⟩,.sc (.string s)]=some (.sc (.string (eqB s))):=by
 have:¬((((⟨#[61]⟩:ByteArray).size+s.size:Nat):Int) > IntKind.i64.max):=by
  have h1:IntKind.i64.max=9223372036854775807:=by decide
  have h2:(⟨#[61]⟩:ByteArray).size=1:=rfl
  omega
 simp only [pev,strBin,if_neg this,Option.map_some]
 rfl
@[simp] theorem s65 (s:ByteArray) (hs:s.size≤4611686018427387904):call 65 [.sc (.string s)] S=some (.agg (tWord s).cells,S):=by
 rw [call_calm a65 rfl (by simp) rfl]
 simp [f65,f65b,put_apply,upd_apply,setCells,retRs,retR,calm_T,pev_eqs hs,tWord]
end
mutual
def T.cnt:T→Int
 | .mk _ _ l=>cntL l 1
def cntL:List T→Int→Int
 |[],n=>n
 |t::l,n=>cntL l (IntKind.i64.wrap (n+t.cnt))
end
theorem T.cnt_def:∀t:T,t.cnt=cntL t.kids 1
 | .mk _ _ _=>rfl
section
theorem count_loop {a:T} {rg:Nat→Option (List AV)} {S:AS} {ks:List Kn} (h1:rg 1=some a.cells) (hb:a.kids.length≤4611686018427387904)
 (ih:∀t∈a.kids,call 142 [.agg t.cells] S=some (.sc (.int .i64 t.cnt),S))
 (hk:∀e n,e 3=.sc (.int .i64 n)→fin [.tmp 2] (unw AA (some (.exit 0,st 21 e rg S)) ks)=some (.sc (.int .i64 n),S)):
 ∀(n i:Nat) (e:Nat→AV) (m:Int) (tm:List Nat),n+i=a.kids.length→tm=[5,6,7,8,9,10,11,12,13,14,15,16,17,18,19]→e 1=.reg 1 0→e 3=.sc (.int .i64 m)→e 4=.sc (.int .i64 i)→
  fin [.tmp 2] (exec AA (.loop tm [] f142_l0) (st 21 e rg S) ks)=some (.sc (.int .i64 (cntL (a.kids.drop i) m)),S):=by
 intro n
 induction n with
 |zero=>
  intro i e m tm hn htm h1' h3 h4
  rw [exec_loop]
  generalize hkk:Kn.loop tm [] f142_l0::ks=kk
  have hc:¬(i:Int) < a.kids.length:=by omega
  simp [f142_l0,put_apply,htm,h1',h4,h1,hc]
  rw [←hkk];simp
  rw [hk _ m (by simp [put_apply,h3]),List.drop_eq_nil_of_le (by omega)]
  rfl
 |succ n ihn=>
  intro i e m tm hn htm h1' h3 h4
  rw [exec_loop]
  generalize hkk:Kn.loop tm [] f142_l0::ks=kk
  have hc:(i:Int) < a.kids.length:=by omega
  have hi:i < a.kids.length:=by omega
  obtain ⟨t,ht⟩:∃t,a.kids[i]?=some t:=⟨a.kids[i],by simp [hi]⟩
  have hs:=ih t (List.mem_of_getElem? ht)
  have w1:IntKind.i64.wrap ((i:Int)+1)=((i+1:Nat):Int):=w64 (by omega)
  have hd:cntL (a.kids.drop i) m=cntL (a.kids.drop (i+1)) (IntKind.i64.wrap (m+t.cnt)):=by
   obtain ⟨_,e1⟩:=List.getElem?_eq_some_iff.1 ht
   rw [List.drop_eq_getElem_cons hi,e1];rfl
  simp [f142_l0,put_apply,htm,h1',h3,h4,h1,hc,lstT_at ht,hs,w1]
  rw [←hkk,unw_loop,hd]
  exact ihn (i+1) _ _ tm (by omega) htm (by simp [put_apply,htm,h1']) (by simp [put_apply]) (by simp [put_apply])
theorem refCount:∀(n:Nat) (a:T) (S:AS),sizeOf a < n→a.fits→call 142 [.agg a.cells] S=some (.sc (.int .i64 a.cnt),S)
 |0,_,_,h,_=>by omega
 |n+1,a,S,hn,hfit=>by
  obtain ⟨hlen,hkids⟩:=T.fits_kids hfit
  rw [call_calm a142 rfl (by simp) rfl]
  simp only [f142]
  simp [f142b,put_apply,upd_apply]
  refine (congrArg (calmR S) (count_loop (a:=a) (by simp [upd_apply]) hlen (fun t ht=>refCount n t _ (by have:=T.kid_lt ht;omega) (hkids t ht)) ?_ a.kids.length 0 _ 1 _ (by omega) rfl (by simp [put_apply]) (by simp [put_apply]) (by simp [put_apply]))).trans ?_
  ·intro e m he;simp [put_apply,he,retRs,retR]
  ·simp [calm_sc,T.cnt_def]
@[simp] theorem s142 {a:T} {S:AS} (h:a.fits):call 142 [.agg a.cells] S=some (.sc (.int .i64 a.cnt),S):=refCount _ a S (Nat.lt_succ_self _) h
end
theorem less_lt:∀{a b:List UInt8},Go.Op.bytesLess a b=decide (a < b)
 |[],[]=>by simp [Go.Op.bytesLess]
 |[],b::bs=>by simp [Go.Op.bytesLess]
 |a::as,[]=>by simp [Go.Op.bytesLess]
 |a::as,b::bs=>by
  have ih:=@less_lt as bs
  simp only [Go.Op.bytesLess,ih,List.cons_lt_cons_iff]
  by_cases h1:a < b
  ·simp [h1]
  ·by_cases h2:a=b
   ·subst h2;simp
   ·simp [h1,h2]
theorem ba_data {x y:ByteArray} (h:x.data.toList=y.data.toList):x=y:=by
 obtain ⟨⟨x⟩⟩:=x
 obtain ⟨⟨y⟩⟩:=y
 simp at h;rw [h]
theorem sLt_iff {x y:ByteArray}:sLt x y=decide (x.data.toList < y.data.toList):=by
 unfold sLt
 show Go.Op.bytesLess _ _=_
 rw [less_lt,ByteArray.toList_eq,ByteArray.toList_eq]
def digB (d:Nat):ByteArray:=⟨#[UInt8.ofNat (48+d)]⟩
theorem pev_rem10 {n:Nat}:pev (.bin .rem) [.sc (.int .i64 (n:Int)),.i 10]=some (.sc (.int .i64 ((n % 10:Nat):Int))):=by
 have:(n:Int).tmod 10=((n % 10:Nat):Int):=by
  rw [Int.tmod_eq_emod_of_nonneg (by omega)];omega
 simp only [pev,intBin,this]
 rfl
theorem pev_quo10 {n:Nat} (h:n≤9223372036854775807):pev (.bin .quo) [.sc (.int .i64 (n:Int)),.i 10]=some (.sc (.int .i64 ((n / 10:Nat):Int))):=by
 have:IntKind.i64.wrap ((n:Int).tdiv 10)=((n / 10:Nat):Int):=by
  rw [show (n:Int).tdiv 10=((n / 10:Nat):Int) by
   rw [Int.tdiv_eq_ediv_of_nonneg (by omega)];omega]
  exact w64 (by omega)
 simp only [pev,intBin,this]
 rfl
theorem wrap_u8 {d:Nat} (h:d < 10):IntKind.u8.wrap (IntKind.i64.wrap (48+(d:Int)))=((48+d:Nat):Int):=by
 rw [w64 (by omega)]
 match d,h with
 |0,_|1,_|2,_|3,_|4,_|5,_|6,_|7,_|8,_|9,_=>rfl
theorem pev_dig {d:Nat}:pev .bytesStr [.lst 1 true [[.sc (.int .u8 ((48+d:Nat):Int))]]]=some (.sc (.string (digB d))):=by
 simp only [pev,bytesOf,Option.map_some,Int.toNat_natCast]
 rfl
def numB (n:Nat):ByteArray:=⟨(Lib.decDigits n).toArray⟩
theorem ba_app {x y:List UInt8}:(⟨x.toArray⟩:ByteArray)++⟨y.toArray⟩=⟨(x++y).toArray⟩:=by
 apply ba_data
 simp [ByteArray.data_append]
theorem ba_assoc {x y z:ByteArray}:x++y++z=x++(y++z):=by
 apply ba_data
 simp [ByteArray.data_append]
theorem numB_step {n:Nat} (h:10≤n):numB n=numB (n / 10)++digB (n % 10):=by
 unfold numB digB
 rw [Lib.decDigits,dif_neg (by omega)]
 exact (ba_app (x:=Lib.decDigits (n / 10)) (y:=[UInt8.ofNat (48+n % 10)])).symm
theorem numB_one {n:Nat} (h:n < 10):numB n=digB n:=by
 unfold numB digB
 rw [Lib.decDigits_one h]
theorem numB_size (n:Nat):(numB n).size≤n / 4+1:=by
 induction n using Nat.strongRecOn with
 |_ n ih=>
  by_cases h:n < 10
  ·rw [numB_one h];show 1≤_;omega
  ·rw [numB_step (by omega),ByteArray.size_append]
   have:=ih (n / 10) (by omega)
   have h1:(digB (n % 10)).size=1:=rfl
   omega
def restB (n k:Nat):ByteArray:=if n=0∧0 < k then ⟨#[]⟩ else numB n
theorem restB_step {n k:Nat} (h:0 < n∨k=0):restB n k=restB (n / 10) (k+1)++digB (n % 10):=by
 have h1:restB n k=numB n:=by unfold restB;rw [if_neg (by omega)]
 rw [h1]
 by_cases hn:n < 10
 ·have h2:restB (n / 10) (k+1)=⟨#[]⟩:=by unfold restB;rw [if_pos (by omega)]
  rw [h2,numB_one hn,Nat.mod_eq_of_lt hn]
  exact (ba_app (x:=[]) (y:=[UInt8.ofNat (48+n)])).symm
 ·have h2:restB (n / 10) (k+1)=numB (n / 10):=by unfold restB;rw [if_neg (by omega)]
  rw [h2,numB_step (by omega)]
theorem restB_end {n k:Nat} {s:ByteArray} (h:n=0∧0 < k):restB n k++s=s:=by
 unfold restB;rw [if_pos h]
 apply ba_data;simp [ByteArray.data_append]
section
variable {S:AS}
theorem num_loop {ks:List Kn} {rg:Nat→Option (List AV)} {r:Option (AV×AS)} {R:ByteArray} (hk:∀e,e 3=.sc (.string R)→fin [.tmp 2] (unw AA (some (.exit 0,st 28 e rg S)) ks)=r):
 ∀(m k n:Nat) (s:ByteArray) (e:Nat→AV) (tm:List Nat),m+k=20→n < 10 ^ m→n≤9223372036854775807→(0 < m∨n=0∧0 < k)→s.size≤30 * k→restB n k++s=R→tm=[5,6,7,8,9,10,11,12,13,14,15,16,17,18,19,20,21,22,23,24,25,26]→
  e 0=.sc (.int .i64 n)→e 3=.sc (.string s)→e 4=.sc (.int .i64 k)→fin [.tmp 2] (exec AA (.loop tm [] f249_l0) (st 28 e rg S) ks)=r:=by
 intro m
 induction m with
 |zero=>
  intro k n s e tm hm hn hb hp hs hR htm h0 h3 h4
  rw [exec_loop]
  generalize hkk:Kn.loop tm [] f249_l0::ks=kk
  have hc:¬(k:Int) < 20:=by omega
  simp [f249_l0,put_apply,htm,h0,h4,hc]
  rw [←hkk];simp
  exact hk _ (by simp [put_apply,h3];rw [←hR,restB_end (by omega)])
 |succ m ih=>
  intro k n s e tm hm hn hb hp hs hR htm h0 h3 h4
  rw [exec_loop]
  generalize hkk:Kn.loop tm [] f249_l0::ks=kk
  have hc:(k:Int) < 20:=by omega
  have hd:n % 10 < 10:=Nat.mod_lt _ (by omega)
  by_cases hgo:0 < n∨k=0
  ·have w1:IntKind.i64.wrap ((k:Int)+1)=((k+1:Nat):Int):=w64 (by omega)
   have hsz:(digB (n % 10)).size=1:=rfl
   have e1:=pev_sadd (x:=digB (n % 10)) (y:=s) (by omega)
   have hcond:(decide ((k:Int)=0)=true∨(0:Int) < n):=by
    rcases hgo with h|h
    ·right;omega
    ·left;simp [h]
   have fin':∀e':Nat→AV,e' 0=.sc (.int .i64 ((n / 10:Nat):Int))→e' 3=.sc (.string (digB (n % 10)++s))→e' 4=.sc (.int .i64 ((k+1:Nat):Int))→fin [.tmp 2] (unw AA (some (.normal,st 28 e' rg S)) kk)=r:=by
    intro e' g0 g3 g4
    rw [←hkk,unw_loop]
    refine ih (k+1) (n / 10) _ e' tm (by omega) ?_ (by omega) ?_ ?_ ?_ htm g0 g3 g4
    ·rw [Nat.pow_succ]at hn;omega
    ·by_cases hm0:0 < m
     ·exact .inl hm0
     ·have:m=0:=by omega
      subst this
      simp at hn
      right;omega
    ·have:(digB (n % 10)++s).size=(digB (n % 10)).size+s.size:=ByteArray.size_append
     omega
    ·rw [←hR,restB_step hgo,ba_assoc]
   have hbyte:pev .bytesStr [AV.lst 1 true [[.sc (.int .u8 (IntKind.u8.wrap (IntKind.i64.wrap (48+(n:Int) % 10))))]]]=some (.sc (.string (digB (n % 10)))):=by
    rw [show ((n:Int) % 10)=((n % 10:Nat):Int) by omega,wrap_u8 hd];exact pev_dig
   have w2:=w1
   simp only [Int.natCast_add,Int.natCast_one]at w2
   by_cases hk0:(k:Int)=0
   ·simp [f249_l0,put_apply,htm,h0,h3,h4,hc,hk0,pev_rem10,pev_quo10 hb,hbyte,fillR,e1]
    exact fin' _ (by simp [put_apply]) (by simp [put_apply]) (by simp [put_apply,hk0];decide)
   ·have h':(0:Int) < (n:Int):=by omega
    have hk1:¬k=0:=by omega
    have hn1:0 < n:=by omega
    simp [f249_l0,put_apply,htm,h0,h3,h4,hc,hk0,hk1,hn1,h',pev_rem10,pev_quo10 hb,hbyte,fillR,e1,w2]
    exact fin' _ (by simp [put_apply]) (by simp [put_apply]) (by simp [put_apply])
  ·have hn0:n=0:=by omega
   have hk0:¬(k:Int)=0:=by omega
   subst hn0
   have hk1:¬k=0:=by omega
   simp [f249_l0,put_apply,htm,h0,h4,hc,hk0,hk1]
   rw [←hkk];simp
   exact hk _ (by simp [put_apply,h3];rw [←hR,restB_end (by omega)])
theorem s249 {n:Nat} (hn:n≤9223372036854775807):call 249 [.sc (.int .i64 (n:Int))] S=some (.sc (.string (numB n)),S):=by
 rw [call_calm a249 rfl (by simp) rfl]
 simp only [f249]
 simp [f249b,put_apply]
 have hR:restB n 0++(⟨#[]⟩:ByteArray)=numB n:=by
  unfold restB;rw [if_neg (by omega)]
  apply ba_data;simp [ByteArray.data_append]
 refine (congrArg (calmR S) (num_loop (R:=numB n) (r:=some (.sc (.string (numB n)),{S with ro:=S.n})) ?_ 20 0 n ⟨#[]⟩ _ _ (by omega) (by omega) hn (by omega) (by decide) hR rfl (by simp [put_apply]) (by simp [put_apply]) (by simp [put_apply]))).trans ?_
 ·intro e he;simp [put_apply,he,retRs,retR]
 ·simp [calm_sc]
theorem s139 {n:Int} (hl: -9223372036854775808 < n) (hh:n≤9223372036854775807):call 139 [.sc (.int .i64 n)] S=some (.sc (.string (itoaB n)),S):=by
 rw [call_calm a139 rfl (by simp) rfl]
 simp only [f139]
 by_cases hn:n < 0
 ·obtain ⟨m,hm⟩:∃m:Nat,-n=m:=⟨n.natAbs,by omega⟩
  have w1:IntKind.i64.wrap (0 - n)=(m:Int):=by rw [w64 (by omega)];omega
  have w2:IntKind.i64.wrap (-n)=(m:Int):=by rw [w64 (by omega)];omega
  have hlen:(numB m).size≤m / 4+1:=numB_size m
  have e1:=pev_sadd (x:=⟨#[45]⟩) (y:=numB m) (by have:(⟨#[45]⟩:ByteArray).size=1:=rfl;omega)
  have e2:(⟨#[45]⟩:ByteArray)++numB m=itoaB n:=by
   unfold itoaB Lib.itoa numB
   rw [if_pos hn,show n.natAbs=m by omega]
   exact ba_app (x:=[45]) (y:=Lib.decDigits m)
  rw [e2]at e1
  simp [f139b,put_apply,hn,w1,w2,s249 (n:=m) (by omega),e1,retRs,retR,calm_sc]
 ·obtain ⟨m,rfl⟩:∃m:Nat,n=m:=⟨n.toNat,by omega⟩
  have e2:numB m=itoaB (m:Int):=by
   unfold itoaB Lib.itoa numB
   rw [if_neg hn];rfl
  simp [f139b,put_apply,hn,s249 (n:=m) (by omega),e2,retRs,retR,calm_sc]
end
section
variable {S:AS}
theorem itoaB_size (n:Int) (hl: -9223372036854775808≤n) (hh:n≤9223372036854775807):(itoaB n).size≤4611686018427387000:=by
 unfold itoaB Lib.itoa
 split
 ·have:=numB_size n.natAbs
  have h2:(⟨(45::Lib.decDigits n.natAbs).toArray⟩:ByteArray).size=(numB n.natAbs).size+1:=by
   unfold numB;show (List.toArray _).size=(List.toArray _).size+1;simp
  omega
 ·have:=numB_size n.toNat
  unfold numB at this
  omega
def tNum (n:Int):T:=tWord (itoaB n)
theorem s67 {n:Int} (hl: -9223372036854775808 < n) (hh:n≤9223372036854775807):call 67 [.sc (.int .i64 n)] S=some (.agg (tNum n).cells,S):=by
 have hs:=itoaB_size n (by omega) hh
 rw [call_calm a67 rfl (by simp) rfl]
 simp [f67,f67b,put_apply,upd_apply,setCells,retRs,retR,s139 hl hh,s65 (itoaB n) (by omega),calm_T,tNum]
end
theorem nrm_isReg:∀x:AV,x.nrm.isReg=x.isReg
 | .sc _| .junk| .opq| .reg _ _| .ptr _ _ _| .iptr _| .arr _ _ _ _ _| .agg _| .tup _| .fn _ _ _| .mp _=>rfl
 | .lst _ _ _=>by rw [AV.nrm];rfl
@[simp] theorem rowsOf_ro {z:Nat} {S:AS} {r:Nat} {x:AV}:rowsOf z ⟨S.heap,S.n,r⟩ x=rowsOf z S x:=by cases x<;>rfl
@[simp] theorem slice_ro {S:AS} {r least id sz off n:Nat}:AS.slice ⟨S.heap,S.n,r⟩ least id sz off n=S.slice least id sz off n:=rfl
structure Old (S S':AS):Prop where
 ro:S'.ro=S.ro
 n:S.n≤S'.n
 heap:∀id,id < S.n→S'.heap id=S.heap id
theorem Old.refl (S:AS):Old S S:=⟨rfl,Nat.le_refl _,fun _ _=>rfl⟩
theorem Old.trans {S S' S'':AS} (h:Old S S') (h':Old S' S''):Old S S'':=⟨h'.ro.trans h.ro,Nat.le_trans h.n h'.n,fun id e=>(h'.heap id (Nat.lt_of_lt_of_le e h.n)).trans (h.heap id e)⟩
theorem old_new {S:AS} {o:AObj}:Old S (S.new o):=⟨rfl,Nat.le_succ _,fun id h=>if_neg (by omega)⟩
theorem old_set {S S':AS} {id:Nat} {o:Option AObj} (h:Old S S') (hid:S.n≤id):Old S (S'.set id o):=⟨h.ro,h.n,fun j hj=>by
 show (if j=id then _ else S'.heap j)=_
 rw [if_neg (by omega)];exact h.heap j hj⟩
theorem slice_of {S:AS} {least id sz:Nat} {rs:List (List AV)} (h:S.heap id=some (.rows sz rs)) (hl:least≤id):S.slice least id sz 0 rs.length=some rs:=by
 unfold AS.slice
 rw [if_pos hl,h]
 simp
theorem heap_new {S:AS} {o:AObj}:(S.new o).heap S.n=some o:=if_pos rfl
section
variable {S:AS}
theorem c256 {x:AV} {S:AS} (hr:x.isReg=false):call 256 [x] S=cloneG 3 48 [x] S:=call_ext a256 (by simp [hr])
theorem p228 {k:Int} {n:ByteArray} {x:AV} {l:List T} (hr:x.isReg=false) (hx:rowsOf 3 S x.nrm=some (l.map T.cells)) (hl:l.length * 48≤140737488355328):
 call 228 [.sc (.int .i64 k),.sc (.string n),x] S=some (.agg (T.mk k n l).cells,S):=by
 have hn:x.nrm.isReg=false:=by rw [nrm_isReg];exact hr
 rw [call_calm' a228 (args':=[.sc (.int .i64 k),.sc (.string n),x.nrm]) (by simp [hr]) (by simp) rfl]
 have e:=@calm_mk_arr S (AS.new ⟨S.heap,S.n,S.n⟩ (.rows 3 (l.map T.cells))) k n S.n 0 l.length none l (by
  have:=@slice_of (AS.new ⟨S.heap,S.n,S.n⟩ (.rows 3 (l.map T.cells))) S.n S.n 3 _ heap_new (Nat.le_refl _)
  simpa using this)
 generalize hq:x.nrm=q at hn hx
 have e1:cloneG 3 48 [q] ⟨S.heap,S.n,S.n⟩=some (.arr S.n 3 0 l.length none,AS.new ⟨S.heap,S.n,S.n⟩ (.rows 3 (l.map T.cells))):=by
  simp [cloneG,hx,hl]
 simp only [f228]
 simp [-calmR_some,f228b,c256 hn,hn,e1]
 simpa [-calmR_some] using e
def tData (s:ByteArray):T:=.mk 1 s []
def tAtom (s:ByteArray):T:=.mk 2 s []
def tPair (l:List T):T:=.mk 3 ⟨#[]⟩ l
@[simp] theorem p228n {k:Int} {n:ByteArray}:call 228 [.sc (.int .i64 k),.sc (.string n),.lst 0 true []] S=some (.agg (T.mk k n []).cells,S):=
 p228 (l:=[]) rfl (by simp [AV.nrm,nrmR,lstN,rowsOf]) (by simp)
theorem p228l {k:Int} {n:ByteArray} {f:Bool} (l:List T) (h:l.length * 48≤140737488355328):call 228 [.sc (.int .i64 k),.sc (.string n),.lst 3 f (l.map T.cells)] S=some (.agg (T.mk k n l).cells,S):=
 p228 rfl (by rw [lstT_nrm' _ _ _ (fun _=>rfl)];exact lstT_rows S l) h
@[simp] theorem p228_1 {k:Int} {n:ByteArray} {f:Bool} {a:T}:call 228 [.sc (.int .i64 k),.sc (.string n),.lst 3 f [a.cells]] S=some (.agg (T.mk k n [a]).cells,S):=p228l [a] (by simp)
@[simp] theorem p228_2 {k:Int} {n:ByteArray} {f:Bool} {a b:T}:call 228 [.sc (.int .i64 k),.sc (.string n),.lst 3 f [a.cells,b.cells]] S=some (.agg (T.mk k n [a,b]).cells,S):=p228l [a,b] (by simp)
@[simp] theorem s192 (s:ByteArray):call 192 [.sc (.string s)] S=some (.agg (tData s).cells,S):=by
 rw [call_calm a192 rfl (by simp) rfl]
 simp [f192,f192b,tData]
theorem p126 {x:AV} {l:List T} (hr:x.isReg=false) (hx:rowsOf 3 S x.nrm=some (l.map T.cells)) (hn:x.nrm.nrm=x.nrm) (hl:l.length * 48≤140737488355328):call 126 [x] S=some (.agg (tPair l).cells,S):=by
 have h2:x.nrm.isReg=false:=by rw [nrm_isReg];exact hr
 rw [call_calm' a126 (args':=[x.nrm]) (by simp [hr]) (by simp) rfl]
 have e:∀S':AS,rowsOf 3 S' x.nrm=some (l.map T.cells)→call 228 [.sc (.int .i64 3),.sc (.string ⟨#[]⟩),x.nrm] S'=some (.agg (T.mk 3 ⟨#[]⟩ l).cells,S'):=fun S' h=>p228 h2 (by rw [hn];exact h) hl
 have e:=e ⟨S.heap,S.n,S.n⟩ (by rw [rowsOf_ro];exact hx)
 generalize x.nrm=q at e h2
 simp [f126,f126b,e,tPair]
attribute [simp] pureR
@[simp] theorem frz_lstN {z:Nat} {xs:List (List AV)} {o:Nat→Nat→Nat→Nat→Option (List (List AV))}:(lstN z xs).frz o=(frzR o xs).map (lstN z):=by
 cases xs with
 |nil=>rfl
 |cons x xs=>unfold lstN;rw [AV.frz];rfl
@[simp] theorem lstN_pure {z:Nat} {xs:List (List AV)}:(lstN z xs).pure=pureR xs:=by unfold lstN;rw [AV.pure]
def tEnc (a b:T):T:=.mk 4 ⟨#[]⟩ [a,b]
def tHash (a:T):T:=.mk 6 ⟨#[]⟩ [a]
def tKdf (a:T) (n:ByteArray):T:=.mk 7 n [a]
def tPub (a:T):T:=.mk 8 ⟨#[]⟩ [a]
def tMask (a b:T):T:=.mk 10 ⟨#[]⟩ [a,b]
def tPack (s:ByteArray) (l:List T):T:=tPair (tData s::l)
@[simp] theorem s130 (s:ByteArray):call 130 [.sc (.string s)] S=some (.agg (tAtom s).cells,S):=by
 rw [call_calm a130 rfl (by simp) rfl]
 simp [f130,f130b,tAtom,T.cells,rowsT,lstN]
end
section
variable {S:AS}
@[simp] theorem s128 {a b:T}:call 128 [.agg a.cells,.agg b.cells] S=some (.agg (tEnc a b).cells,S):=by
 rw [call_calm a128 rfl (by simp) rfl]
 simp [f128,f128b,tEnc,T.cells,rowsT]
@[simp] theorem s124 {a:T}:call 124 [.agg a.cells] S=some (.agg (tHash a).cells,S):=by
 rw [call_calm a124 rfl (by simp) rfl]
 simp [f124,f124b,tHash,T.cells,rowsT]
@[simp] theorem s125 {a b:T}:call 125 [.agg a.cells,.agg b.cells] S=some (.agg (tMask a b).cells,S):=by
 rw [call_calm a125 rfl (by simp) rfl]
 simp [f125,f125b,tMask,T.cells,rowsT]
end
section
variable {S:AS}
@[simp] theorem s360 {a:T}:call 360 [.agg a.cells] S=some (.agg (tPub a).cells,S):=by
 rw [call_calm a360 rfl (by simp) rfl]
 simp [f360,f360b,tPub,T.cells,rowsT]
@[simp] theorem s362 {a b:T}:call 362 [.agg a.cells,.agg b.cells] S=some (.agg (tEnc a b).cells,S):=by
 rw [call_calm a362 rfl (by simp) rfl]
 simp [f362,f362b,tEnc,T.cells,rowsT]
@[simp] theorem s265 {a:T}:call 265 [.agg a.cells] S=some (.agg (tHash a).cells,S):=by
 rw [call_calm a265 rfl (by simp) rfl]
 simp [f265,f265b,tHash,T.cells,rowsT]
@[simp] theorem s173 {a:T}:call 173 [.agg a.cells] S=some (.agg (tPub a).cells,S):=by
 rw [call_calm a173 rfl (by simp) rfl]
 simp [f173,f173b,tPub,T.cells,rowsT]
@[simp] theorem s172 {a b:T}:call 172 [.agg a.cells,.agg b.cells] S=some (.agg (tMask a b).cells,S):=by
 rw [call_calm a172 rfl (by simp) rfl]
 simp [f172,f172b,tMask,T.cells,rowsT]
@[simp] theorem s312 {a:T} {n:ByteArray}:call 312 [.agg a.cells,.sc (.string n)] S=some (.agg (tKdf a n).cells,S):=by
 rw [call_calm a312 rfl (by simp) rfl]
 simp [f312,f312b,tKdf,T.cells,rowsT]
@[simp] theorem s259 {a:T} {n:ByteArray}:call 259 [.agg a.cells,.sc (.string n)] S=some (.agg (tKdf a n).cells,S):=by
 rw [call_calm a259 rfl (by simp) rfl]
 simp [f259,f259b,tKdf,T.cells,rowsT]
end
@[simp] theorem pev_cap {z:Nat} {xs:List (List AV)}:pev .cap [.lst z true xs]=some (.sc (.int .i64 xs.length)):=rfl
@[simp] theorem pev_sl0 {z:Nat}:pev (.sliceL z false true false) [.lst 0 true [],.sc (.int .i64 0)]=some (.lst z true []):=by simp [pev,bound]
theorem pev_slA {z id off len h:Nat} {lim:Option Nat} (hh:h≤len):pev (.sliceL z false true false) [.arr id z off len lim,.sc (.int .i64 (h:Int))]=some (.arr id z off h lim):=by
 have:((h:Int)≤(len:Int)):=by omega
 simp [pev,bound,this]
def zT:List AV:=[.i 0,.s ⟨#[]⟩,.lst 0 true []]
section
variable {S:AS}
theorem p304 {n:Nat} (hn:n * 48≤140737488355328):call 304 [.lst 0 true [],.sc (.int .i64 (n:Int))] S=
 if n=0 then some (.lst 0 true [],S) else some (.arr S.n 3 0 0 none,S.new (.rows 3 (List.replicate n zT))):=by
 rw [call_keep a304 rfl rfl]
 have w1:IntKind.i64.wrap ((n:Int))=n:=w64 (by omega)
 have h0:¬(n:Int) < 0:=by omega
 by_cases h:n=0
 ·subst h
  simp [f304,f304b,w1]
  rfl
 ·have h1:(0:Int) < n:=by omega
  have h2:0 < n:=by omega
  have e:opev (.appendZ 3 48 [.i 0,.s ⟨#[]⟩,.lst 0 true []]) (some 22) (fun _=>none) S [.lst 3 true [],.sc (.int .i64 (n:Int))]=some (.arr S.n 3 0 n none,none,S.new (.rows 3 (List.replicate n zT))):=by
   have:(n:Int) * 48≤140737488355328:=by omega
   simp [opev,h2,this,zT]
  have e2:pev (.sliceL 3 false true false) [.arr S.n 3 0 n none,.sc (.int .i64 0)]=some (.arr S.n 3 0 0 none):=pev_slA (h:=0) (by omega)
  have w2:IntKind.i64.wrap 0=0:=rfl
  simp [f304,f304b,w1,w2,h0,h1,h,h2,e,e2]
inductive IsLs (S:AS) (sz:Nat):List AV→List (List (List AV))→Prop
 |nil:IsLs S sz [] []
 |cons {x:AV} {l:List (List AV)} {xs:List AV} {ls:List (List (List AV))} (hr:x.isReg=false) (hl:pev .lenL [x]=some (.sc (.int .i64 l.length))) (hx:∀S',Old S S'→rowsOf sz S' x=some l) (h:IsLs S sz xs ls):IsLs S sz (x::xs) (l::ls)
theorem IsLs.get {sz:Nat} {xs:List AV} {ls:List (List (List AV))} (h:IsLs S sz xs ls):xs.length=ls.length∧∀i (hi:i < xs.length),∃x l,xs[i]?=some x∧ls[i]?=some l∧x.isReg=false∧pev .lenL [x]=some (.sc (.int .i64 l.length))∧∀S',Old S S'→rowsOf sz S' x=some l:=by
 induction h with
 |nil=>exact ⟨rfl,fun i hi=>by simp at hi⟩
 |cons hr hl hx h ih=>
  refine ⟨by simp [ih.1],fun i hi=>?_⟩
  cases i with
  |zero=>exact ⟨_,_,rfl,rfl,hr,hl,hx⟩
  |succ i=>simpa using ih.2 i (by simpa using hi)
theorem told_rows {z:Nat} {f:Bool} {xs:List (List AV)}:∀S',Old S S'→rowsOf z S' (.lst z f xs)=some xs:=fun S' _=>lst_rowsOf S' z f xs
structure Grow (S S':AS) (v:AV) (acc:List (List AV)) (N:Nat):Prop where
 old:Old S S'
 ro:S'.ro≤S.n
 h:(v=.lst 0 true []∧acc=[]∧N=0)∨∃id rest,v=.arr id 3 0 acc.length none∧S'.heap id=some (.rows 3 (acc++rest))∧N≤acc.length+rest.length∧S.n≤id∧id < S'.n
theorem Grow.app {S S':AS} {v:AV} {acc ys:List (List AV)} {N:Nat} {x:AV} {d:Option Nat} {rg:Nat→Option (List AV)} (h:Grow S S' v acc N) (hN:acc.length+ys.length≤N) (hx:rowsOf 3 S' x=some ys):
 ∃v' S'',opev (.append 3 48) d rg S' [v,x]=some (v',none,S'')∧Grow S S'' v' (acc++ys) N∧v'.isReg=false∧∃id,v'=.arr id 3 0 (acc.length+ys.length) none:=by
 rcases h.h with ⟨rfl,rfl,rfl⟩|⟨id,rest,rfl,hh,hr,hid,hlt⟩
 ·obtain rfl:ys=[]:=List.eq_nil_of_length_eq_zero (by omega)
  refine ⟨.arr S'.n 3 0 0 none,S'.new (.rows 3 []),by simp [opev,hx,appendA],⟨h.old.trans old_new,h.ro,.inr ⟨S'.n,[],rfl,heap_new,by simp,h.old.n,Nat.lt_succ_self _⟩⟩,rfl,_,rfl⟩
 ·cases ys with
  |nil=>exact ⟨.arr id 3 0 acc.length none,S',by simp [opev,hx,appendA],⟨h.old,h.ro,.inr ⟨id,rest,by simp,by simpa using hh,by simpa using hr,hid,hlt⟩⟩,rfl,id,by simp⟩
  |cons y ys=>
   have hro:¬id < S'.ro:=by have:=h.ro;omega
   have h1:¬acc.length+rest.length < acc.length:=by omega
   have h2:acc.length+(ys.length+1)≤acc.length+rest.length:=by simp at hN;omega
   refine ⟨.arr id 3 0 (acc.length+(y::ys).length) none,S'.set id (some (.rows 3 (setRows (acc++rest) acc.length (y::ys)))),?_,⟨old_set h.old hid,h.ro,.inr ⟨id,rest.drop (ys.length+1),by simp,?_,?_,hid,hlt⟩⟩,rfl,id,rfl⟩
   ·simp [opev,hx,appendA,hh,hro]
    intro h3;omega
   ·show (if id=id then _ else _)=_
    rw [if_pos rfl]
    simp [setRows,List.append_assoc]
   ·simp at hN ⊢;omega
def catL (ls:List (List (List AV))):List (List AV):=ls.flatten
theorem take_cat {ls:List (List (List AV))} {i:Nat} {l:List (List AV)} (h:ls[i]?=some l):catL (ls.take (i+1))=catL (ls.take i)++l:=by
 unfold catL
 rw [List.take_add_one,h]
 simp
theorem cat_le {ls:List (List (List AV))} {i:Nat}:(catL (ls.take i)).length≤(catL ls).length:=by
 have:catL ls=catL (ls.take i)++catL (ls.drop i):=by
  unfold catL
  rw [←List.flatten_append,List.take_append_drop]
 rw [this,List.length_append];exact Nat.le_add_right _ _
@[simp] theorem cat_nil:catL []=[]:=rfl
@[simp] theorem cat_cons {l:List (List AV)} {ls:List (List (List AV))}:catL (l::ls)=l++catL ls:=by simp [catL]
theorem p191 {S:AS} {f:Bool} {xs:List AV} {ls:List (List (List AV))} (h:IsLs S 3 xs ls) (hne:xs≠[]) (hlen:xs.length≤4611686018427387904) (hb:(catL ls).length * 48≤140737488355328) (hro:S.ro≤S.n):
 ∃id rest S',call 191 [.lst 1 f (xs.map fun x=>[x])] S=some (.arr id 3 0 (catL ls).length none,S')∧Old S S'∧S.n≤id∧S'.heap id=some (.rows 3 (catL ls++rest))∧id < S'.n:=by
 obtain ⟨hl,hget⟩:=h.get
 rw [call_keep a191 rfl rfl]
 simp only [f191]
 have hlen':((xs.map fun x=>[x]).length:Int)=(xs.length:Int):=by simp
 let Rt:Option (AV×AS)→Prop:=fun r=>∃id rest S',r=some (.arr id 3 0 (catL ls).length none,S')∧Old S S'∧S.n≤id∧S'.heap id=some (.rows 3 (catL ls++rest))∧id < S'.n
 show Rt _
 simp [f191b]
 refine loop_gen (α:=Nat) (R:=fun _=>Rt) (fun i e rg S'=>i≤xs.length∧S'=S∧e 0=.lst 1 f (xs.map fun x=>[x])∧e 3=.sc (.int .i64 ((catL (ls.take i)).length:Nat))∧e 9=.lst 1 f (xs.map fun x=>[x])∧e 10=.sc (.int .i64 (xs.length:Nat))∧e 11=.sc (.int .i64 (i:Nat))) (fun i=>xs.length - i) ?_ 0 _ _ _ ?_
 rotate_left
 ·simp
 intro kk hkk i e rg S' ⟨hi,hS,h0,h3,h9,h10,h11⟩ ih
 subst hS
 by_cases hc:i < xs.length
 ·obtain ⟨x,l,hx,hl',hr,hle,hrow⟩:=hget i hc
  have e1:pev (.iaddr 1) [.lst 1 f (xs.map fun x=>[x]),.sc (.int .i64 (i:Int))]=some (.iptr [x]):=by
   rw [pev_iaddrL (by omega)];simp [hx]
  have hfl:=take_cat hl'
  have hle2:=@cat_le ls (i+1)
  have w1:IntKind.i64.wrap (((catL (ls.take i)).length:Int)+(l.length:Int))=((catL (ls.take (i+1))).length:Nat):=by
   rw [hfl,List.length_append];rw [hfl,List.length_append]at hle2
   rw [w64 (by omega)];omega
  have w2:IntKind.i64.wrap ((i:Int)+1)=((i+1:Nat):Int):=w64 (by omega)
  have hneg:¬(((catL (ls.take (i+1))).length:Nat):Int) < 0:=by omega
  generalize hA:(catL (ls.take i)).length=A at *
  generalize hB:(catL (ls.take (i+1))).length=B at *
  simp [f191_l1,h3,h9,h10,h11,hc,e1,hr,hle,w1,w2,hneg]
  refine ih (i+1) _ _ _ (by omega) (fun _ h=>h) ⟨by omega,rfl,?_⟩
  simp [h0,h9,h10,hB]
 ·have hi':i=xs.length:=by omega
  subst hi'
  have hfull:(catL (ls.take xs.length)).length=(catL ls).length:=by rw [hl,List.take_length]
  rw [hfull]at h3
  simp [f191_l1,h10,h11]
  rw [hkk]
  obtain ⟨v,S1,hv,hG,hvr⟩:∃v S1,call 304 [.lst 0 true [],.sc (.int .i64 (((catL ls).length:Nat):Int))] S'=some (v,S1)∧Grow S' S1 v [] (catL ls).length∧v.isReg=false:=by
   rw [p304 hb]
   by_cases h0:(catL ls).length=0
   ·exact ⟨_,_,if_pos h0,⟨Old.refl _,hro,.inl ⟨rfl,rfl,h0⟩⟩,rfl⟩
   ·exact ⟨_,_,if_neg h0,⟨old_new,hro,.inr ⟨_,_,rfl,heap_new,by simp,Nat.le_refl _,Nat.lt_succ_self _⟩⟩,rfl⟩
  simp [h3,hv,hvr,h0]
  refine loop_gen (α:=Nat) (R:=fun _=>Rt) (fun i e rg S2=>i≤xs.length∧Grow S' S2 (e 6) (catL (ls.take i)) (catL ls).length∧(e 6).isReg=false∧(0 < i→∃id,e 6=.arr id 3 0 (catL (ls.take i)).length none)∧e 25=.lst 1 f (xs.map fun x=>[x])∧e 26=.sc (.int .i64 (xs.length:Nat))∧e 27=.sc (.int .i64 (i:Nat))) (fun i=>xs.length - i) ?_ 0 _ _ _ ?_
  rotate_left
  ·simp [hvr,hG]
  intro kk hkk i e rg S2 ⟨hi,hG,h6r,h6a,h25,h26,h27⟩ ih
  by_cases hc:i < xs.length
  ·obtain ⟨x,l,hx,hl',hr,hle,hrow⟩:=hget i hc
   have e1:pev (.iaddr 1) [.lst 1 f (xs.map fun x=>[x]),.sc (.int .i64 (i:Int))]=some (.iptr [x]):=by
    rw [pev_iaddrL (by omega)];simp [hx]
   have hfl:=take_cat hl'
   have hle2:=@cat_le ls (i+1)
   have w2:IntKind.i64.wrap ((i:Int)+1)=((i+1:Nat):Int):=w64 (by omega)
   obtain ⟨v',S3,ha,hG',hvr',hva⟩:=hG.app (d:=some 33) (rg:=rg) (ys:=l) (x:=x) (by rw [hfl,List.length_append]at hle2;omega) (hrow _ hG.old)
   rw [←hfl]at hG'
   rw [←List.length_append,←hfl]at hva
   simp [f191_l0,h25,h26,h27,hc,e1,hr,h6r,ha,hvr',w2]
   refine ih (i+1) _ _ _ (by omega) (fun _ h=>h) ⟨by omega,?_⟩
   simp [h25,h26,hG',hvr',hva]
  ·have hi':i=xs.length:=by omega
   subst hi'
   obtain ⟨id,h6⟩:=h6a (by cases xs with|nil=>exact absurd rfl hne|cons _ _=>simp)
   rw [hl,List.take_length]at h6 hG
   rw [h6]at hG
   simp [f191_l0,h26,h27]
   rw [hkk]
   simp [h6]
   rcases hG.h with ⟨h,_⟩|⟨id',rest,h,hh,_,hid,hlt⟩
   ·cases h
   ·cases h
    exact ⟨_,_,_,rfl,hG.old,hid,hh,hlt⟩
end
structure IsTs (S:AS) (x:AV) (l:List T):Prop where
 reg:x.isReg=false
 len:pev .lenL [x.nrm]=some (.sc (.int .i64 l.length))
 nn:x.nrm.nrm=x.nrm
 rows:∀S':AS,(∀id,id < S.n→S'.heap id=S.heap id)→rowsOf 3 S' x.nrm=some (l.map T.cells)
section
variable {S:AS}
theorem IsTs.nrm {x:AV} {l:List T} (h:IsTs S x l):IsTs S x.nrm l:=
 ⟨by rw [nrm_isReg];exact h.reg,by rw [h.nn];exact h.len,by rw [h.nn,h.nn],fun S' h2=>by rw [h.nn];exact h.rows S' h2⟩
theorem isTs_lst {f:Bool} {l:List T}:IsTs S (.lst 3 f (l.map T.cells)) l:=by
 have e:(AV.lst 3 f (l.map T.cells)).nrm=lstT l:=lstT_nrm' _ _ _ fun _=>rfl
 exact ⟨rfl,by rw [e];simp,by rw [e];simp,fun S' _=>by rw [e];exact lstT_rows S' l⟩
theorem isTs_nil {z:Nat} {f:Bool}:IsTs S (.lst z f []) []:=by
 have e:(AV.lst z f []).nrm=lstT []:=lstT_nrm' z f [] (by simp)
 exact ⟨rfl,by rw [e];simp,by rw [e];simp,fun S' _=>by rw [e];exact lstT_rows S' []⟩
theorem isTs_arr {id off n:Nat} {lim:Option Nat} {l:List T} (h:S.slice 0 id 3 off n=some (l.map T.cells)) (hid:id < S.n) (hn:n=l.length):IsTs S (.arr id 3 off n lim) l:=by
 refine ⟨rfl,by subst hn;rfl,rfl,fun S' h2=>?_⟩
 show rowsOf 3 S' (.arr id 3 off n lim)=_
 simp only [rowsOf,if_true]
 unfold AS.slice at h ⊢
 rw [h2 id hid];exact h
theorem IsTs.r0 {x:AV} {l:List T} (h:IsTs S x l):rowsOf 3 S x.nrm=some (l.map T.cells):=h.rows S fun _ _=>rfl
theorem q126 {x:AV} {l:List T} (h:IsTs S x l) (hl:l.length * 48≤140737488355328):call 126 [x] S=some (.agg (tPair l).cells,S):=p126 h.reg h.r0 h.nn hl
theorem p62 {s:ByteArray} {x:AV} {l:List T} (h:IsTs S x l) (hl:(l.length+1) * 48≤140737488355328):call 62 [.sc (.string s),x] S=some (.agg (tPack s l).cells,S):=by
 rw [call_calm' a62 (args':=[.sc (.string s),x.nrm]) (by simp [h.reg]) (by simp) rfl]
 have h2:=h.nrm
 have hnn:=h.nn
 generalize x.nrm=y at h2 hnn
 have hls:IsLs ⟨S.heap,S.n,S.n⟩ 3 [.lst 3 true [(tData s).cells],y] [[(tData s).cells],l.map T.cells]:=by
  refine .cons rfl rfl told_rows (.cons h2.reg ?_ (fun S' ho=>?_) .nil)
  ·have:=h2.len;rw [hnn]at this;rw [this];simp
  ·have:=h2.rows S' ho.heap;rw [hnn]at this;exact this
 obtain ⟨id,rest,S',hc,ho,hid,hh,hlt⟩:=p191 (f:=true) hls (by simp) (by simp) (by simp<;>omega) (Nat.le_refl _)
 have hts:IsTs S' (.arr id 3 0 (catL [[(tData s).cells],l.map T.cells]).length none) (tData s::l):=by
  refine isTs_arr ?_ hlt (by simp<;>omega)
  unfold AS.slice
  rw [if_pos (Nat.zero_le _),hh]
  simp
  try (intro hx;omega)
 have e2:=q126 hts (by simp<;>omega)
 have hreg:=h2.reg
 have hcell:y.isCell=true:=by
  have:=h2.r0;rw [hnn]at this
  cases y<;>first|rfl|(simp [rowsOf]at this)
 have hcells:y.cells=[y]:=by
  have:=h2.r0;rw [hnn]at this
  cases y<;>first|rfl|(simp [rowsOf]at this)
 simp only [List.map_cons,List.map_nil]at hc
 generalize catL [[(tData s).cells],l.map T.cells]=cc at hc e2
 simp [f62,f62b,hreg,hcells,hcell,fillR,hc,e2,tPack]
end
section
variable {S:AS}
theorem ld_rows {S:AS} {id row sz:Nat} {rs:List (List AV)} {r:List AV} {d:Option Nat} {rg:Nat→Option (List AV)} {z:Nat} (hh:S.heap id=some (.rows z rs)) (hr:rs[row]?=some r) (hl:r.length=sz):opev (.ld none sz true) d rg S [.ptr id row 0]=some (.agg r,none,S):=by
 rw [opev_ld_ptr hh,hr]
 subst hl
 simp
theorem IsTs.at {x:AV} {l:List T} (h:IsTs S x l) {i:Nat} {t:T} (ht:l[i]?=some t):∃p,pev (.iaddr 3) [x.nrm,.sc (.int .i64 (i:Int))]=some p∧p.isReg=false∧
 ∀S':AS,(∀id,id < S.n→S'.heap id=S.heap id)→∀d rg,opev (.ld none 3 true) d rg S' [p]=some (.agg t.cells,none,S'):=by
 have hlen:i < l.length:=(List.getElem?_eq_some_iff.1 ht).1
 have hr:=h.rows
 have hl:=h.len
 generalize x.nrm=y at hr hl ⊢
 have h0:=hr S fun _ _=>rfl
 cases y with
 |lst z f xs=>
  simp only [rowsOf]at h0
  split at h0
  ·rename_i hz
   cases h0
   have hne:(l.map T.cells).isEmpty=false:=by cases l with
    |nil=>simp at hlen
    |cons _ _=>rfl
   rw [hne]at hz
   have hz:z=3:=by simpa using hz
   subst hz
   exact ⟨.iptr t.cells,by simp [pev,ht],rfl,fun S' _ d rg=>by simp⟩
  ·cases h0
 |arr id z off n lim=>
  simp only [rowsOf]at h0
  split at h0
  ·rename_i hz
   subst hz
   have hn:n=l.length:=by
    have hl:(n:Int)=(l.length:Int):=by simpa using hl
    omega
   refine ⟨.ptr id (off+i) 0,by simp [pev];omega,rfl,fun S' h2 d rg=>?_⟩
   have h1:=hr S' h2
   simp only [rowsOf,if_true]at h1
   unfold AS.slice at h1
   simp only [Nat.zero_le,if_true]at h1
   split at h1
   ·rename_i z' rs hh
    split at h1
    ·rename_i hc
     simp only [Option.some.injEq]at h1
     have:((rs.drop off).take n)[i]?=some t.cells:=by rw [h1];simp [ht]
     rw [List.getElem?_take,if_pos (by omega),List.getElem?_drop]at this
     exact ld_rows hh this (by simp)
    ·cases h1
   ·cases h1
  ·cases h0
 |_=>simp [rowsOf]at h0
structure Own (S0 S':AS) (sz:Nat) (v:AV) (rs:List (List AV)):Prop where
 old:Old S0 S'
 ro:S'.ro≤S0.n
 h:(∃z,v=.lst z true rs∧(rs=[]∨z=sz))∨∃id,v=.arr id sz 0 rs.length none∧S'.heap id=some (.rows sz rs)∧S0.n≤id∧id < S'.n
section
variable {S0 S':AS} {sz:Nat} {v:AV} {rs:List (List AV)}
theorem Own.reg (h:Own S0 S' sz v rs):v.isReg=false:=by rcases h.h with ⟨z,rfl,_⟩|⟨id,rfl,_⟩<;>rfl
theorem Own.cell (h:Own S0 S' sz v rs):v.isCell=true:=by rcases h.h with ⟨z,rfl,_⟩|⟨id,rfl,_⟩<;>rfl
theorem Own.cells (h:Own S0 S' sz v rs):v.cells=[v]:=by rcases h.h with ⟨z,rfl,_⟩|⟨id,rfl,_⟩<;>rfl
theorem own_nil (hro:S0.ro≤S0.n):Own S0 S0 sz (.lst 0 true []) []:=⟨Old.refl _,hro,.inl ⟨0,rfl,.inl rfl⟩⟩
theorem own_lst (hro:S0.ro≤S0.n):Own S0 S0 sz (.lst sz true rs) rs:=⟨Old.refl _,hro,.inl ⟨sz,rfl,.inr rfl⟩⟩
theorem Own.app (h:Own S0 S' sz v rs) {ys:List (List AV)} {x:AV} {bytes:Nat} {d:Option Nat} {rg:Nat→Option (List AV)} (hx:rowsOf sz S' x=some ys) (hy:ys≠[]) (hb:(rs.length+ys.length) * bytes≤140737488355328):
 ∃v' S'',opev (.append sz bytes) d rg S' [v,x]=some (v',none,S'')∧Own S0 S'' sz v' (rs++ys):=by
 cases ys with
 |nil=>exact absurd rfl hy
 |cons y ys=>
  rcases h.h with ⟨z,rfl,hz⟩|⟨id,rfl,hh,hid,hlt⟩
  ·refine ⟨.arr S'.n sz 0 (rs++y::ys).length none,S'.new (.rows sz (rs++y::ys)),?_,⟨h.old.trans old_new,h.ro,.inr ⟨S'.n,rfl,heap_new,h.old.n,Nat.lt_succ_self _⟩⟩⟩
   have hz':(rs.isEmpty ||z==sz)=true:=by
    rcases hz with rfl|rfl<;>simp
   simp only [opev,hx,Option.bind_some,appendA,List.isEmpty_cons,Bool.false_eq_true,if_false,hz',Bool.true_and,hb,decide_true,if_true,Option.map_some,List.length_append]
  ·have hro:¬id < S'.ro:=by have:=h.ro;omega
   refine ⟨.arr S'.n sz 0 (rs++y::ys).length none,(S'.set id none).new (.rows sz (rs++y::ys)),?_,⟨(old_set h.old hid).trans old_new,h.ro,.inr ⟨S'.n,rfl,heap_new,h.old.n,Nat.lt_succ_self _⟩⟩⟩
   simp only [opev,hx,Option.bind_some,appendA,List.isEmpty_cons,Bool.false_eq_true,if_false,hh]
   rw [if_neg (by simp;omega),if_neg (by simp),if_pos ⟨trivial,hb⟩]
   simp
theorem Own.push (h:Own S0 S' sz v rs) {r:List AV} {bytes n:Nat} {f:Bool} {d:Option Nat} {rg:Nat→Option (List AV)} (hn:rs.length=n) (hb:(n+1) * bytes≤140737488355328):
 ∃v' S'',opev (.append sz bytes) d rg S' [v,.lst sz f [r]]=some (v',none,S'')∧Own S0 S'' sz v' (rs++[r])∧v'.isReg=false∧v'.isCell=true∧v'.cells=[v']:=by
 obtain ⟨v',S'',h1,h2⟩:=h.app (d:=d) (rg:=rg) (bytes:=bytes) (ys:=[r]) (x:=.lst sz f [r]) (lst_rowsOf ..) (by simp) (by subst hn;exact hb)
 exact ⟨v',S'',h1,h2,h2.reg,h2.cell,h2.cells⟩
theorem Own.frz (h:Own S0 S' sz v rs) {rs':List (List AV)} {b d:Nat} (hb:b≤S0.n) (hr:mapO (mapO (S'.frzTo b d)) rs=some rs') (hr':mapO (mapO (S'.frzTo b (d+1))) rs=some rs'):S'.frzTo b (d+1) v=some (lstN sz rs'):=by
 rcases h.h with ⟨z,rfl,hz⟩|⟨id,rfl,hh,hid,hlt⟩
 ·rw [frzTo_lst,hr']
  rcases hz with rfl|rfl
  ·cases hr';rfl
  ·rfl
 ·rw [frzTo_arr (slice_of hh (by omega)),hr];rfl
theorem Own.frzT {l:List T} (h:Own S0 S' 3 v (l.map T.cells)) {b d:Nat} (hb:b≤S0.n):S'.frzTo b (d+1) v=some (lstT l):=h.frz hb (by simp) (by simp)
theorem Own.frzS {l:List ByteArray} (h:Own S0 S' 1 v (sRow l)) {b d:Nat} (hb:b≤S0.n):S'.frzTo b (d+1) v=some (lstS l):=h.frz hb (by simp) (by simp)
theorem Own.frzI {l:List Int} (h:Own S0 S' 1 v (iRow l)) {b d:Nat} (hb:b≤S0.n):S'.frzTo b (d+1) v=some (lstI l):=h.frz hb (by simp) (by simp)
end
end
section
variable {S:AS}
theorem take_map_succ {l:List T} {i:Nat} {t:T} (h:l[i]?=some t):(l.take (i+1)).map T.cells=(l.take i).map T.cells++[t.cells]:=by
 rw [List.take_add_one,h];simp
theorem get_of_lt {α:Type} {l:List α} {i:Nat} (h:i < l.length):∃t,l[i]?=some t:=⟨l[i],by simp [h]⟩
theorem p63 {s:ByteArray} {x:AV} {l:List T} (h:IsTs S x l) (hl:(l.length+1) * 48≤140737488355328):call 63 [.sc (.string s),x] S=some (.agg (tPack s l).cells,S):=by
 rw [call_calm' a63 (args':=[.sc (.string s),x.nrm]) (by simp [h.reg]) (by simp) rfl]
 have h2:=h.nrm
 have hnn:=h.nn
 generalize x.nrm=y at h2 hnn
 have hreg:=h2.reg
 have hlen:=h2.len
 rw [hnn]at hlen
 simp only [f63]
 simp [-calmR_some,f63b,fillR,hreg]
 rw [show (some (AV.agg (tPack s l).cells,S):Option (AV×AS))=calmR S (some (AV.agg (tPack s l).cells,S)) by simp]
 let S0:AS:=⟨S.heap,S.n,S.n⟩
 refine loop_gen (α:=Nat) (R:=fun _ r=>calmR S r=calmR S (some (.agg (tPack s l).cells,S))) (fun i e rg S'=>i≤l.length∧e 1=y∧e 4=.reg 4 0∧(rg 4).isSome∧(∃z,rg 4=some z∧z.length=3)∧e 5=.reg 5 0∧e 6=.sc (.int .i64 (i:Nat))∧∃v,rg 5=some [.sc (.int .i64 3),.sc (.string ⟨#[]⟩),v]∧Own S0 S' 3 v ((tData s::l.take i).map T.cells)) (fun i=>l.length - i) ?_ 0 _ _ _ ?_
 rotate_left
 ·refine ⟨by omega,by simp,by simp,by simp,⟨_,by simp;rfl,rfl⟩,by simp,by simp,_,by simp;rfl,?_⟩
  exact own_lst (Nat.le_refl _)
 intro kk hkk i e rg S' ⟨hi,h1,h4,_,⟨z,hz,hzl⟩,h5,h6,v,h7,hO⟩ ih
 by_cases hc:i < l.length
 ·obtain ⟨t,ht⟩:=get_of_lt hc
  obtain ⟨p,hp,hpr,hld⟩:=h2.at ht
  rw [hnn]at hp
  have hld:=hld S' (fun id hid=>hO.old.heap id hid) (some 22)
  have hL:((tData s::l.take i).map T.cells).length=i+1:=by
   rw [List.length_map,List.length_cons,List.length_take];omega
  obtain ⟨v',S'',ha,hO'⟩:=hO.app (bytes:=48) (ys:=[t.cells]) (x:=.lst 3 true [t.cells]) (d:=some 24) (rg:=rg) (lst_rowsOf ..) (by simp) (by have h1:[t.cells].length=1:=rfl;omega)
  have w2:IntKind.i64.wrap ((i:Int)+1)=((i+1:Nat):Int):=w64 (by omega)
  have hcell:=hO'.cell
  have hcells:=hO'.cells
  simp [-calmR_some,f63_l0,h1,h5,h6,hlen,hc,h7,hp,hpr,hld,ha,w2,hcell,hcells,fillR]
  refine ih (i+1) _ _ _ (by omega) (fun _ h=>h) ?_
  refine ⟨by omega,by simp [h1],by simp [h4],by simp [hz],⟨z,by simp [hz],hzl⟩,by simp [h5],by simp,v',by simp,?_⟩
  rw [List.map_cons,take_map_succ ht]
  exact hO'
 ·have hi':i=l.length:=by omega
  subst hi'
  rw [List.take_length]at hO
  simp [-calmR_some,f63_l0,h1,h6,hlen]
  rw [hkk]
  have hcell:=hO.cell
  have hf:=hO.frzT (l:=tData s::l) (b:=S.n) (d:=1) (Nat.le_refl _)
  match z,hzl with
  |[z1,z2,z3],_=>
   simp [h4,h5,h7,hz,hcell,hf,tPack,tPair,T.cells,rowsT,rowsT_map,lstT]
theorem pev_eqs' {s:ByteArray} (hs:s.size≤4611686018427387904):pev (.bin .add) [.sc (.string ⟨#[61]⟩),.sc (.string s)]=some (.sc (.string (eqB s))):=pev_eqs hs
theorem s64 {s:ByteArray} (hs:s.size≤4611686018427387904):call 64 [.sc (.string s)] S=some (.agg (tWord s).cells,S):=by
 rw [call_calm a64 rfl (by simp) rfl]
 simp [f64,f64b,pev_eqs' hs]
 rfl
def wordsT (l:List ByteArray):List T:=l.map tWord
end
theorem numB_le:∀(k n:Nat),n < 10 ^ (k+1)→(numB n).size≤k+1
 |0,n,h=>by
  rw [numB_one (by omega)];exact Nat.le_refl _
 |k+1,n,h=>by
  by_cases hn:n < 10
  ·rw [numB_one hn];show 1≤_;omega
  ·rw [numB_step (by omega),ByteArray.size_append]
   have:=numB_le k (n / 10) (by rw [Nat.pow_succ]at h;omega)
   have h1:(digB (n % 10)).size=1:=rfl
   omega
theorem itoaB_le {n:Int} (hl: -9223372036854775808≤n) (hh:n≤9223372036854775807):(itoaB n).size≤20:=by
 unfold itoaB Lib.itoa
 split
 ·have:=numB_le 18 n.natAbs (by omega)
  have h2:(⟨(45::Lib.decDigits n.natAbs).toArray⟩:ByteArray).size=(numB n.natAbs).size+1:=by
   unfold numB;show (List.toArray _).size=(List.toArray _).size+1;simp
  omega
 ·have:=numB_le 18 n.toNat (by omega)
  unfold numB at this
  omega
def cutB (s p:ByteArray):Option ByteArray:=if s.extract 0 p.size=p then some (s.extract p.size s.size) else none
theorem cutB_some {s p r:ByteArray}:cutB s p=some r↔s=p++r:=by
 unfold cutB
 constructor
 ·intro h
  split at h
  ·rename_i hc
   cases h
   have hsz:p.size≤s.size:=by
    have:=congrArg ByteArray.size hc
    rw [ByteArray.size_extract]at this;omega
   conv=>rhs;lhs;rw [←hc]
   rw [←ByteArray.extract_eq_extract_append_extract _ (Nat.zero_le _) hsz,ByteArray.extract_zero_size]
  ·cases h
 ·rintro rfl
  rw [if_pos (ByteArray.extract_append_eq_left rfl),ByteArray.extract_append_eq_right rfl (by rw [ByteArray.size_append])]
theorem cutB_app {p r:ByteArray}:cutB (p++r) p=some r:=cutB_some.2 rfl
theorem cutB_size {s p r:ByteArray} (h:cutB s p=some r):s.size=p.size+r.size:=by rw [cutB_some.1 h,ByteArray.size_append]
section
variable {S:AS}
theorem s398 {s p:ByteArray}:call 398 [.sc (.string s),.sc (.string p)] S=some (.sc (.bool (cutB s p).isSome),S):=by
 rw [call_calm a398 rfl (by simp) rfl]
 unfold cutB
 by_cases h:p.size≤s.size
 ·have h':(p.size:Int)≤s.size:=by omega
  have e:=pev_sliceS01 (s:=s) (n:=(p.size:Int)) (by omega) h'
  rw [Int.toNat_natCast]at e
  by_cases hc:s.extract 0 p.size=p
  ·simp [f398,f398b,h,e,hc]
  ·simp [f398,f398b,h,e,hc]
 ·have hc:s.extract 0 p.size≠p:=by
   intro hc
   have:=congrArg ByteArray.size hc
   rw [ByteArray.size_extract]at this;omega
  simp [f398,f398b,h,hc]
def cutV (s:ByteArray):Option ByteArray→AV
 |some r=>.tup [.sc (.string r),.sc (.bool true)]
 |none=>.tup [.sc (.string s),.sc (.bool false)]
theorem s306 {s p:ByteArray}:call 306 [.sc (.string s),.sc (.string p)] S=some (cutV s (cutB s p),S):=by
 rw [call_calm a306 rfl (by simp) rfl]
 have e:=@s398
 cases hc:cutB s p with
 |none=>simp [f306,f306b,s398,hc,cutV]
 |some r=>
  have hs:=cutB_size hc
  have h':(p.size:Int)≤s.size:=by omega
  have e:=pev_sliceS10 (s:=s) (n:=(p.size:Int)) (by omega) h'
  rw [Int.toNat_natCast]at e
  have er:s.extract p.size s.size=r:=by
   unfold cutB at hc;split at hc
   ·cases hc;rfl
   ·cases hc
  rw [er]at e
  simp [f306,f306b,s398,hc,e,cutV]
theorem s195 {s p:ByteArray}:call 195 [.sc (.string s),.sc (.string p)] S=some (cutV s (cutB s p),S):=by
 rw [call_calm a195 rfl (by simp) rfl]
 cases hc:cutB s p with
 |none=>simp [f195,f195b,s306,hc,cutV]
 |some r=>simp [f195,f195b,s306,hc,cutV]
def isDat (t:T):Bool:=decide (t.kind=1) && decide (t.kids.length=0)
theorem s194 {t:T}:call 194 [.agg t.cells] S=some (.tup [.sc (.string t.name),.sc (.bool (isDat t))],S):=by
 unfold isDat
 rw [call_calm a194 rfl (by simp) rfl]
 by_cases h1:t.kind=1
 ·by_cases h2:t.kids.length=0
  ·have h3:(t.kids.length:Int)=0:=by omega
   simp [f194,f194b,h1,h2]
  ·have h3:¬(t.kids.length:Int)=0:=by omega
   simp [f194,f194b,h1,h2]
 ·simp [f194,f194b,h1]
def optV (o:Option ByteArray):AV:=.tup [.sc (.string (o.getD ⟨#[]⟩)),.sc (.bool o.isSome)]
def wordOf (t:T):Option ByteArray:=if isDat t then cutB t.name ⟨#[61]⟩ else none
theorem s85 {t:T}:call 85 [.agg t.cells] S=some (optV (wordOf t),S):=by
 rw [call_calm a85 rfl (by simp) rfl]
 unfold wordOf
 cases h:isDat t with
 |true=>
  cases hc:cutB t.name ⟨#[61]⟩ with
  |none=>simp [f85,f85b,s194,s195,h,hc,cutV,optV]
  |some r=>simp [f85,f85b,s194,s195,h,hc,cutV,optV]
 |false=>
  cases hc:cutB t.name ⟨#[61]⟩ with
  |none=>simp [f85,f85b,s194,s195,h,hc,cutV,optV]
  |some r=>simp [f85,f85b,s194,s195,h,hc,cutV,optV]
theorem cutB_eq {s:ByteArray}:cutB s ⟨#[61]⟩=if s.data[0]?=some 61 then some (s.extract 1 s.size) else none:=by
 obtain ⟨⟨l⟩⟩:=s
 unfold cutB
 show (if ByteArray.extract ⟨⟨l⟩⟩ 0 1=_ then some (ByteArray.extract ⟨⟨l⟩⟩ 1 _) else none)=_
 cases l with
 |nil=>
  rw [if_neg,if_neg]
  ·simp
  ·intro h
   have:=congrArg ByteArray.size h
   rw [ByteArray.size_extract]at this
   have h1:(⟨⟨[]⟩⟩:ByteArray).size=0:=rfl
   have h2:(⟨#[61]⟩:ByteArray).size=1:=rfl
   omega
 |cons b l=>
  by_cases h:b=61
  ·subst h
   rw [if_pos,if_pos]
   ·simp
   ·apply ba_data;simp [ByteArray.data_extract]
  ·rw [if_neg,if_neg]
   ·simpa using h
   ·intro h2
    have:=congrArg (fun x=>x.data.toList) h2
    simp [ByteArray.data_extract]at this
    exact h this
theorem s86 {t:T}:call 86 [.agg t.cells] S=some (optV (wordOf t),S):=by
 rw [call_calm a86 rfl (by simp) rfl]
 unfold wordOf isDat
 rw [cutB_eq]
 by_cases h1:t.kind=1
 ·by_cases h2:t.kids.length=0
  ·by_cases h3:t.name=⟨#[]⟩
   ·simp [f86,f86b,h1,h2,h3,optV]
   ·have hsz:0 < t.name.size:=by
     apply Classical.byContradiction;intro hn
     apply h3
     have:t.name.size=0:=by omega
     exact ByteArray.size_eq_zero_iff.1 this
    have hsz':0 < t.name.data.size:=hsz
    obtain ⟨b,hb⟩:∃b,t.name.data[0]?=some b:=⟨t.name.data[0],by simp [hsz']⟩
    have e1:pev .indexS [.sc (.string t.name),.i 0]=some (.sc (.int .u8 (b.toNat:Int))):=by
     simp [pev,hb]
    have e2:=pev_sliceS10 (s:=t.name) (n:=1) (by omega) (by omega)
    by_cases h4:b=61
    ·subst h4
     simp [f86,f86b,h1,h2,h3,e1,hb,optV]
     simp [e2]
    ·have h5:¬((b.toNat:Int)=61):=by
      intro h;apply h4
      have:b.toNat=61:=by omega
      exact UInt8.toNat_inj.1 this
     simp [f86,f86b,h1,h2,h3,e1,hb,h4,h5,optV]
  ·have h2':0 < t.kids.length:=by omega
   have h2'':(0:Int) < t.kids.length:=by omega
   simp [f86,f86b,h1,h2,h2',optV]
 ·simp [f86,f86b,h1,optV]
end
def isDig (c:UInt8):Prop:=48≤c.toNat∧c.toNat≤57
instance (c:UInt8):Decidable (isDig c):=by unfold isDig;infer_instance
def foldD:Nat→List UInt8→Nat
 |a,[]=>a
 |a,c::l=>foldD (a * 10+(c.toNat - 48)) l
theorem foldD_app:∀{l m:List UInt8} {a:Nat},foldD a (l++m)=foldD (foldD a l) m
 |[],_,_=>rfl
 |_::l,m,a=>foldD_app (l:=l)
theorem foldD_ge:∀{l:List UInt8} {a:Nat},a≤foldD a l
 |[],_=>Nat.le_refl _
 |c::l,a=>Nat.le_trans (by omega) (foldD_ge (l:=l))
theorem dig_ofNat {d:Nat} (h:d < 10):isDig (UInt8.ofNat (48+d))∧(UInt8.ofNat (48+d)).toNat - 48=d:=by
 have:(UInt8.ofNat (48+d)).toNat=48+d:=by
  rw [UInt8.toNat_ofNat'];omega
 unfold isDig
 omega
theorem decDigits_dig:∀(n:Nat),(∀c∈Lib.decDigits n,isDig c)∧foldD 0 (Lib.decDigits n)=n∧Lib.decDigits n≠[]:=by
 intro n
 induction n using Nat.strongRecOn with
 |_ n ih=>
  rw [Lib.decDigits]
  split
  ·rename_i h
   obtain ⟨h1,h2⟩:=dig_ofNat h
   refine ⟨by intro c hc;rw [List.mem_singleton.1 hc];exact h1,?_,List.cons_ne_nil _ _⟩
   show 0 * 10+((UInt8.ofNat (48+n)).toNat - 48)=n
   rw [h2];omega
  ·rename_i h
   obtain ⟨i1,i2,i3⟩:=ih (n / 10) (by omega)
   obtain ⟨h1,h2⟩:=dig_ofNat (d:=n % 10) (by omega)
   refine ⟨?_,?_,by simp⟩
   ·intro c hc
    rcases List.mem_append.1 hc with hc|hc
    ·exact i1 c hc
    ·rw [List.mem_singleton.1 hc];exact h1
   ·rw [foldD_app,i2]
    show n / 10 * 10+((UInt8.ofNat (48+n % 10)).toNat - 48)=n
    rw [h2];omega
theorem parse_dig:∀{l:List UInt8} {a:Nat},(∀c∈l,isDig c)→foldD a l < 18446744073709551616→Lib.parseUint10 a l=.ok (foldD a l)
 |[],_,_,_=>rfl
 |c::l,a,hd,hb=>by
  have h1:=hd c (by simp)
  have hge:=@foldD_ge l (a * 10+(c.toNat - 48))
  have hb':foldD (a * 10+(c.toNat - 48)) l < 18446744073709551616:=hb
  unfold isDig at h1
  rw [Lib.parseUint10,if_pos h1,if_neg (by omega),if_neg (by omega)]
  exact parse_dig (fun x hx=>hd x (by simp [hx])) hb'
theorem atoi_itoa {n:Int} (hl: -9223372036854775808≤n) (hh:n≤9223372036854775807):Lib.atoiAll (Lib.itoa n)=.ok n:=by
 unfold Lib.itoa
 split
 ·rename_i h
  obtain ⟨i1,i2,i3⟩:=decDigits_dig n.natAbs
  have hp:=parse_dig i1 (a:=0) (by rw [i2];omega)
  rw [i2]at hp
  have e2:Lib.parseMag (Lib.decDigits n.natAbs)=.ok n.natAbs:=by unfold Lib.parseMag;rw [if_neg i3,hp]
  unfold Lib.atoiAll
  dsimp only
  rw [if_pos (.inr rfl),e2]
  dsimp only
  rw [if_neg (fun h=>h.1 rfl),if_neg (fun h=>by omega),if_pos (show (45:UInt8).toNat=45 from rfl)]
  congr 1;omega
 ·rename_i h
  obtain ⟨i1,i2,i3⟩:=decDigits_dig n.toNat
  have hp:=parse_dig i1 (a:=0) (by rw [i2];omega)
  rw [i2]at hp
  have e2:Lib.parseMag (Lib.decDigits n.toNat)=.ok n.toNat:=by unfold Lib.parseMag;rw [if_neg i3,hp]
  generalize hd:Lib.decDigits n.toNat=l at *
  cases l with
  |nil=>exact absurd rfl i3
  |cons c r=>
   have hc:=i1 c (by simp)
   unfold isDig at hc
   unfold Lib.atoiAll
   dsimp only
   rw [if_neg (fun h=>by omega),e2]
   dsimp only
   rw [if_neg (fun h=>by omega),if_neg (fun h=>by omega),if_neg (fun h=>by omega)]
   congr 1;omega
theorem itoaB_list {n:Int}:(itoaB n).data.toList=Lib.itoa n:=by simp [itoaB]
theorem itoaB_inj {n m:Int} (hn: -9223372036854775808≤n∧n≤9223372036854775807) (hm: -9223372036854775808≤m∧m≤9223372036854775807) (h:itoaB n=itoaB m):n=m:=by
 have h1:=atoi_itoa hn.1 hn.2
 have h2:=atoi_itoa hm.1 hm.2
 rw [←itoaB_list,h,itoaB_list,h2]at h1
 cases h1;rfl
def inI (n:Int):Prop:= -9223372036854775808≤n∧n≤9223372036854775807
open Classical in
noncomputable def numS (s:ByteArray):Option Int:=if h:∃n,inI n∧itoaB n=s then some h.choose else none
theorem numS_some {s:ByteArray} {n:Int}:numS s=some n↔inI n∧itoaB n=s:=by
 unfold numS
 constructor
 ·intro h
  split at h
  ·rename_i hx;cases h;exact hx.choose_spec
  ·cases h
 ·intro h
  have hx:∃n,inI n∧itoaB n=s:=⟨n,h⟩
  rw [dif_pos hx]
  have:=hx.choose_spec
  rw [itoaB_inj this.1 h.1 (this.2.trans h.2.symm)]
theorem numS_none {s:ByteArray}:numS s=none↔∀n,inI n→itoaB n≠s:=by
 rw [Option.eq_none_iff_forall_not_mem]
 constructor
 ·intro h n hn he;exact h n (numS_some.2 ⟨hn,he⟩)
 ·intro h n hn;have:=numS_some.1 hn;exact h n this.1 this.2
theorem numS_itoa {n:Int} (h:inI n):numS (itoaB n)=some n:=numS_some.2 ⟨h,rfl⟩
noncomputable def numOf (t:T):Option Int:=(wordOf t).bind fun s=>if s.size≤18 then numS s else none
def optI (o:Option Int):AV:=.tup [.sc (.int .i64 (o.getD 0)),.sc (.bool o.isSome)]
section
variable {S:AS}
theorem c193 {n:Int} (h:inI n):call 193 [.sc (.int .i64 n)] S=some (.sc (.string (itoaB n)),S):=by
 rw [call_ext a193 rfl]
 unfold inI at h
 simp only [itoaG,if_pos h]
theorem s66 {n:Int} (h:inI n):call 66 [.sc (.int .i64 n)] S=some (.agg (tNum n).cells,S):=by
 have hs:=itoaB_le h.1 h.2
 rw [call_calm a66 rfl (by simp) rfl]
 simp [f66,f66b,c193 h,s64 (s:=itoaB n) (by omega),tNum]
theorem c196 {s:ByteArray} (h:s.size≤281474976710656):call 196 [.sc (.string s)] S=some (match Lib.atoiAll s.data.toList with
 | .ok v=>.tup [.sc (.int .i64 v),.sc .nilIface]
 | .range=>.tup [.sc (.int .i64 (Lib.atoiSat s.data.toList)),.opq]
 |_=>.tup [.sc (.int .i64 0),.opq],S):=by
 rw [call_ext a196 rfl]
 simp only [atoiG,if_pos h]
 cases Lib.atoiAll s.data.toList<;>rfl
theorem atoiAll_in {l:List UInt8} {v:Int} (h:Lib.atoiAll l=.ok v):inI v:=by
 unfold Lib.atoiAll at h
 unfold inI
 split at h
 ·cases h
 ·simp only at h
  split at h
  ·cases h
  ·cases h
  ·split at h
   ·cases h
   ·split at h
    ·cases h
    ·rename_i h1 h2
     cases h
     split<;>omega
theorem s87 {t:T} (hn:t.name.size≤281474976710656):call 87 [.agg t.cells] S=some (optI (numOf t),S):=by
 rw [call_calm a87 rfl (by simp) rfl]
 unfold numOf
 cases hw:wordOf t with
 |none=>
  have e:∀S,call 196 [.sc (.string ⟨#[]⟩)] S=some (.tup [.sc (.int .i64 0),.opq],S):=fun S=>by
   rw [c196 (by show 0≤_;omega)];rfl
  simp [f87,f87b,s85,hw,optV,e,optI]
 |some s=>
  have hs:s.size≤281474976710656:=by
   unfold wordOf at hw
   split at hw
   ·have:=cutB_size hw;omega
   ·cases hw
  have e:=fun S=>@c196 S s hs
  simp only [Option.bind_some]
  cases ha:Lib.atoiAll s.data.toList with
  |ok v=>
   rw [ha]at e
   have hv:=atoiAll_in ha
   by_cases h18:s.size≤18
   ·rw [if_pos h18]
    have h18':¬(18:Int) < s.size:=by omega
    by_cases hi:itoaB v=s
    ·rw [numS_some.2 ⟨hv,hi⟩]
     simp [f87,f87b,s85,hw,optV,e,h18',c193 hv,hi,optI]
    ·have:numS s=none:=by
      rw [numS_none];intro n hn he
      have h1:=atoi_itoa hn.1 hn.2
      rw [←itoaB_list,he,ha]at h1
      cases h1;exact hi he
     rw [this]
     simp [f87,f87b,s85,hw,optV,e,h18',c193 hv,hi,optI]
   ·rw [if_neg h18]
    have h18':(18:Int) < s.size:=by omega
    simp [f87,f87b,s85,hw,optV,e,h18',optI]
  |range=>
   rw [ha]at e
   have:(if s.size≤18 then numS s else none)=none:=by
    split
    ·rw [numS_none];intro n hn he
     have h1:=atoi_itoa hn.1 hn.2
     rw [←itoaB_list,he,ha]at h1;cases h1
    ·rfl
   rw [this]
   simp [f87,f87b,s85,hw,optV,e,optI]
  |_=>
   rw [ha]at e
   have:(if s.size≤18 then numS s else none)=none:=by
    split
    ·rw [numS_none];intro n hn he
     have h1:=atoi_itoa hn.1 hn.2
     rw [←itoaB_list,he,ha]at h1;cases h1
    ·rfl
   rw [this]
   simp [f87,f87b,s85,hw,optV,e,optI]
end
def tagT (t:T):ByteArray:=match t.kids with
 |k::_=>if t.kind=3∧t.name=⟨#[]⟩∧isDat k=true then k.name else ⟨#[]⟩
 |[]=>⟨#[]⟩
theorem tagT_no {t:T} (h:¬(t.kind=3∧t.name=(⟨#[]⟩:ByteArray))):tagT t=⟨#[]⟩:=by
 unfold tagT
 split
 ·rw [if_neg fun h2=>h ⟨h2.1,h2.2.1⟩]
 ·rfl
theorem tagT_nil {t:T} (h:t.kids=[]):tagT t=⟨#[]⟩:=by unfold tagT;rw [h]
theorem tagT_cons {t k:T} {l:List T} (h1:t.kind=3) (h2:t.name=(⟨#[]⟩:ByteArray)) (h:t.kids=k::l):tagT t=if isDat k then k.name else ⟨#[]⟩:=by
 unfold tagT;rw [h];simp [h1,h2]
def unpT (tag:ByteArray) (n:Int) (t:T):Option (List T):=if tag≠⟨#[]⟩∧tagT t=tag∧(t.kids.length:Int)=n+1 then some t.kids.tail else none
def optL (o:Option (List T)):AV:=.tup [lstT (o.getD []),.sc (.bool o.isSome)]
theorem lstT_lst {k:T} {l:List T}:lstT (k::l)=.lst 3 false (k.cells::l.map T.cells):=rfl
@[simp] theorem lstN_T {l:List T}:lstN 3 (l.map T.cells)=lstT l:=rfl
theorem lstT_at0 {k:T} {l:List T}:pev (.iaddr 3) [lstT (k::l),.i 0]=some (.iptr k.cells):=lstT_at (i:=0) rfl
section
variable {S:AS}
theorem s81 {t:T}:call 81 [.agg t.cells] S=some (.sc (.string (tagT t)),S):=by
 rw [call_calm a81 rfl (by simp) rfl]
 by_cases h1:t.kind=3
 ·by_cases h2:t.name=⟨#[]⟩
  ·cases hk:t.kids with
   |nil=>rw [tagT_nil hk];simp [f81,f81b,h1,h2,hk]
   |cons k l=>
    rw [tagT_cons h1 h2 hk]
    have h3:(0:Int) < l.length+1:=by omega
    cases hd:isDat k with
    |true=>simp [f81,f81b,h1,h2,hk,h3,lstT_at0,s194,hd]
    |false=>simp [f81,f81b,h1,h2,hk,h3,lstT_at0,s194,hd]
  ·rw [tagT_no (by simp [h2])]
   simp [f81,f81b,h1,h2]
 ·rw [tagT_no (by simp [h1])]
  simp [f81,f81b,h1]
theorem s82 {t:T}:call 82 [.agg t.cells] S=some (.sc (.string (tagT t)),S):=by
 rw [call_calm a82 rfl (by simp) rfl]
 by_cases h1:t.kind=3
 ·by_cases h2:t.name=⟨#[]⟩
  ·cases hk:t.kids with
   |nil=>rw [tagT_nil hk];simp [f82,f82b,h1,h2,hk]
   |cons k l=>
    rw [tagT_cons h1 h2 hk]
    have h3:¬(l.length:Int)+1=0:=by omega
    have c0:=cells_T k
    by_cases hk1:k.kind=1
    ·by_cases hk2:k.kids.length=0
     ·have hd:isDat k=true:=by simp only [isDat,hk1,hk2,decide_true,Bool.and_true]
      have hk3:k.kids=[]:=List.eq_nil_of_length_eq_zero hk2
      simp [f82,f82b,h1,h2,hk,h3,lstT_at0,hk1,hk3,hd,c0]
     ·have hd:isDat k=false:=by simp only [isDat,hk1,decide_true,Bool.true_and,decide_eq_false_iff_not];exact hk2
      have hk4:0 < k.kids.length:=by omega
      simp [f82,f82b,h1,h2,hk,h3,lstT_at0,hk1,hk4,hd,c0]
    ·have hd:isDat k=false:=by simp only [isDat,hk1,decide_false,Bool.false_and]
     simp [f82,f82b,h1,h2,hk,h3,lstT_at0,hk1,hd,c0]
  ·rw [tagT_no (by simp [h2])]
   simp [f82,f82b,h1,h2]
 ·rw [tagT_no (by simp [h1])]
  simp [f82,f82b,h1]
theorem tagT_kids {t:T} {tag:ByteArray} (h:tagT t=tag) (hn:tag≠⟨#[]⟩):∃k l,t.kids=k::l:=by
 unfold tagT at h
 split at h
 ·rename_i k l hk;exact ⟨k,l,hk⟩
 ·exact absurd h.symm hn
theorem s78 {tag:ByteArray} {n:Int} {t:T} (hf:t.kids.length≤4611686018427387904):call 78 [.sc (.string tag),.sc (.int .i64 n),.agg t.cells] S=some (optL (unpT tag n t),S):=by
 rw [call_calm a78 rfl (by simp) rfl]
 have w1:IntKind.i64.wrap ((t.kids.length:Int) - 1)=t.kids.length - 1:=w64 (by omega)
 unfold unpT
 by_cases h1:tag=⟨#[]⟩
 ·subst h1
  rw [if_neg (by simp)]
  simp [f78,f78b,optL]
  rfl
 ·by_cases h2:tagT t=tag
  ·by_cases h3:(t.kids.length:Int)=n+1
   ·rw [if_pos ⟨h1,h2,h3⟩]
    obtain ⟨k,l,hk⟩:=tagT_kids h2 h1
    have h4:t.kids.length - 1=n:=by omega
    have e:pev (.sliceL 3 true true true) [lstT t.kids,.i 1,.sc (.int .i64 t.kids.length),.sc (.int .i64 t.kids.length)]=some (.lst 3 true (l.map T.cells)):=by
     rw [hk]
     have hh:(1:Int)≤(l.length:Int)+1:=by omega
     have hb:(0:Int)≤(l.length:Int)+1:=by omega
     simp [pev,lstT_lst,bound,hh,hb]
     exact List.take_of_length_le (by simp)
    have h5:(t.kids.length:Int) - 1=n:=by omega
    rw [h5]at w1
    have htl:t.kids.tail=l:=by rw [hk];rfl
    rw [htl]
    simp [f78,f78b,s81,h1,h2,w1,h5,e,optL]
   ·rw [if_neg (by simp [h3])]
    have h5:¬(t.kids.length:Int) - 1=n:=by omega
    simp [f78,f78b,s81,h1,h2,w1,h5,optL]
    rfl
  ·rw [if_neg (by simp [h2])]
   simp [f78,f78b,s81,h1,h2,optL]
   rfl
theorem s79 {tag:ByteArray} {n:Int} {t:T} (hn: -4611686018427387904≤n∧n≤4611686018427387904):call 79 [.sc (.string tag),.sc (.int .i64 n),.agg t.cells] S=some (optL (unpT tag n t),S):=by
 rw [call_calm a79 rfl (by simp) rfl]
 have w1:IntKind.i64.wrap (n+1)=n+1:=w64 (by omega)
 unfold unpT
 by_cases h1:tag=⟨#[]⟩
 ·subst h1
  rw [if_neg (by simp)]
  simp [f79,f79b,s82,optL]
  rfl
 ·by_cases h2:tagT t=tag
  ·by_cases h3:(t.kids.length:Int)=n+1
   ·rw [if_pos ⟨h1,h2,h3⟩]
    obtain ⟨k,l,hk⟩:=tagT_kids h2 h1
    have e:pev (.sliceL 3 true false false) [lstT t.kids,.i 1]=some (.lst 3 false (l.map T.cells)):=by
     rw [hk]
     have hh:(1:Int)≤(l.length:Int)+1:=by omega
     simp [pev,lstT_lst,bound,hh]
    have htl:t.kids.tail=l:=by rw [hk];rfl
    rw [htl]
    rw [←h3]at w1
    simp [f79,f79b,s82,h1,h2,←h3,w1,e,optL]
   ·rw [if_neg (by simp [h3])]
    simp [f79,f79b,s82,h1,h2,w1,h3,optL]
    rfl
  ·rw [if_neg (by simp [h2])]
   simp [f79,f79b,s82,h1,h2,optL]
   rfl
def noneB:ByteArray:=⟨#[110,111,110,101]⟩
def isNoneT (t:T):Bool:=(unpT noneB 0 t).isSome
theorem s84 {t:T}:call 84 [.agg t.cells] S=some (.sc (.bool (isNoneT t)),S):=by
 rw [call_calm a84 rfl (by simp) rfl]
 have e:=fun S=>@s79 S noneB 0 t (by omega)
 simp only [noneB]at e
 unfold isNoneT noneB
 simp [f84,f84b,e,optL]
end
def scan:Bool→Nat→List UInt8→Option Nat
 |_,n,[]=>some n
 |f,n,c::l=>if f=true∧c=45 then scan false n l else if isDig c then scan false (n * 10+(c.toNat - 48)) l else none
def endN (s:ByteArray) (o:Option Nat):Option Int:=o.bind fun n=>if itoaB (if s.data[0]?=some 45 then -(n:Int) else n)=s then some (if s.data[0]?=some 45 then -(n:Int) else n) else none
theorem scan_dig:∀{l:List UInt8} {f:Bool} {n:Nat},(∀c∈l,isDig c)→scan f n l=some (foldD n l)
 |[],_,_,_=>rfl
 |c::l,f,n,h=>by
  have hc:=h c (by simp)
  have h45:¬(f=true∧c=45):=by
   rintro ⟨_,rfl⟩
   exact absurd hc (by decide)
  rw [scan,if_neg h45,if_pos hc]
  exact scan_dig fun x hx=>h x (by simp [hx])
theorem scan_lt:∀{l:List UInt8} {f:Bool} {n m k:Nat},n < 10 ^ k→scan f n l=some m→m < 10 ^ (k+l.length)
 |[],_,_,_,_,h,e=>by simp only [scan]at e;cases e;simpa using h
 |c::l,f,n,m,k,h,e=>by
  have hp:10 ^ (k+1)=10 ^ k * 10:=Nat.pow_succ 10 k
  rw [scan]at e
  rw [List.length_cons,show k+(l.length+1)=(k+1)+l.length by omega]
  split at e
  ·exact scan_lt (k:=k+1) (by omega) e
  ·split at e
   ·rename_i hd
    unfold isDig at hd
    exact scan_lt (k:=k+1) (by omega) e
   ·cases e
theorem endN_eq {s:ByteArray} (h18:s.size≤18):endN s (scan true 0 s.data.toList)=numS s:=by
 have hsl:s.data.toList.length=s.size:=by simp
 cases hn:numS s with
 |some m=>
  obtain ⟨hm,he⟩:=numS_some.1 hn
  have hl:s.data.toList=Lib.itoa m:=by rw [←he,itoaB_list]
  have h0:s.data[0]?=s.data.toList[0]?:=by simp
  unfold endN
  rw [h0,hl]
  unfold Lib.itoa
  unfold inI at hm
  split
  ·rename_i hneg
   obtain ⟨i1,i2,i3⟩:=decDigits_dig m.natAbs
   have e1:scan true 0 (45::Lib.decDigits m.natAbs)=some m.natAbs:=by
    rw [scan,if_pos ⟨rfl,rfl⟩,scan_dig i1,i2]
   have e2: -(m.natAbs:Int)=m:=by omega
   simp [e1,e2,he]
  ·rename_i hneg
   obtain ⟨i1,i2,i3⟩:=decDigits_dig m.toNat
   rw [scan_dig i1,i2]
   have e3:¬(Lib.decDigits m.toNat)[0]?=some 45:=by
    intro h
    have:=i1 45 (List.mem_of_getElem? h)
    exact absurd this (by decide)
   have e2:(m.toNat:Int)=m:=by omega
   simp only [Option.bind_some,if_neg e3,e2,he,if_true]
 |none=>
  rw [numS_none]at hn
  unfold endN
  cases hs:scan true 0 s.data.toList with
  |none=>rfl
  |some n=>
   have hlt:=scan_lt (k:=0) (by omega) hs
   have hpow:10 ^ (0+s.data.toList.length)≤10 ^ 18:=Nat.pow_le_pow_right (by omega) (by omega)
   simp only [Option.bind_some]
   rw [if_neg]
   apply hn
   unfold inI
   split<;>omega
section
variable {S:AS}
theorem idxS {s:ByteArray} {i:Nat} {b:UInt8} (h:s.data.toList[i]?=some b):pev .indexS [.sc (.string s),.sc (.int .i64 (i:Int))]=some (.sc (.int .u8 (b.toNat:Int))):=by
 have h':s.data[i]?=some b:=by simpa using h
 simp [pev,h']
set_option maxHeartbeats 1000000 in
theorem s88 {t:T}:call 88 [.agg t.cells] S=some (optI (numOf t),S):=by
 rw [call_calm a88 rfl (by simp) rfl]
 unfold numOf
 cases hw:wordOf t with
 |none=>simp [f88,f88b,s86,hw,optV,optI]
 |some s=>
  simp only [Option.bind_some]
  by_cases h0:s=⟨#[]⟩
  ·subst h0
   have:numS (⟨#[]⟩:ByteArray)=none:=by
    rw [numS_none];intro n hn he
    have:=congrArg (fun x=>x.data.toList) he
    simp only [itoaB_list]at this
    unfold Lib.itoa at this
    split at this
    ·simp at this
    ·exact (decDigits_dig _).2.2 this
   simp [f88,f88b,s86,hw,optV,optI,this]
  ·by_cases h18:s.size≤18
   ·rw [if_pos h18,←endN_eq h18]
    have h18':¬(18:Int) < s.size:=by omega
    have hsl:s.data.toList.length=s.size:=by simp
    simp only [f88]
    simp [-calmR_some,f88b,s86,hw,optV,h0,h18']
    refine loop_gen (α:=Nat×Nat) (R:=fun a r=>calmR S r=some (optI (endN s (scan (decide (a.1=0)) a.2 (s.data.toList.drop a.1))),S)) (fun a e rg S'=>a.1≤s.size∧a.2 < 10 ^ a.1∧e 4=.sc (.string s)∧e 6=.sc (.int .i64 (a.2:Nat))∧e 7=.sc (.int .i64 (a.1:Nat))) (fun a=>s.size - a.1) ?_ (0,0) _ _ _ ?_
    rotate_left
    ·simp
    intro kk hkk ⟨i,n⟩ e rg S' ⟨hi,hlt,h4,h6,h7⟩ ih
    simp only at hi hlt h6 h7 ih ⊢
    by_cases hc:i < s.size
    ·have hc':(i:Int) < s.size:=by omega
     obtain ⟨b,hb⟩:∃b,s.data.toList[i]?=some b:=⟨s.data.toList[i],by simp [hsl,hc]⟩
     have hdrop:s.data.toList.drop i=b::s.data.toList.drop (i+1):=by
      obtain ⟨hlt',rfl⟩:=List.getElem?_eq_some_iff.1 hb
      exact List.drop_eq_getElem_cons hlt'
     have hix:=idxS hb
     have w2:IntKind.i64.wrap ((i:Int)+1)=((i+1:Nat):Int):=w64 (by omega)
     have hp:10 ^ (i+1)=10 ^ i * 10:=Nat.pow_succ 10 i
     have hpow:10 ^ (i+1)≤10 ^ 18:=Nat.pow_le_pow_right (by omega) (by omega)
     by_cases hm:i=0∧b=45
     ·obtain ⟨rfl,rfl⟩:=hm
      have e1:scan (decide (0=0)) n (45::s.data.toList.drop (0+1))=scan (decide (0+1=0)) n (s.data.toList.drop (0+1)):=by
       rw [scan,if_pos ⟨by simp,rfl⟩];rfl
      have hix0:pev .indexS [.sc (.string s),.sc (.int .i64 0)]=some (.sc (.int .u8 45)):=hix
      simp [-calmR_some,f88_l0,h4,h6,h7,hc',hc,hix0]
      have w3:IntKind.i64.wrap 1=1:=rfl
      refine ih (0+1,n) _ _ _ (by simp only;omega) (fun r h=>by rw [hdrop,e1];exact h) ?_
      refine ⟨by simp only;omega,by simp only;omega,by simp [h4],by simp [h6],by simp [w3]⟩
     ·by_cases hd:isDig b
      ·have e1:scan (decide (i=0)) n (b::s.data.toList.drop (i+1))=scan (decide (i+1=0)) (n * 10+(b.toNat - 48)) (s.data.toList.drop (i+1)):=by
        rw [scan,if_neg (by simpa using hm),if_pos hd];rfl
       unfold isDig at hd
       have q1:¬((b.toNat:Int) < 48):=by omega
       have q2:¬((57:Int) < b.toNat):=by omega
       have q3:¬((b.toNat:Int)=45):=by omega
       have w4:IntKind.i64.wrap ((n:Int) * 10)=(n:Int) * 10:=w64 (by omega)
       have w5:IntKind.i64.wrap (b.toNat:Int)=b.toNat:=w64 (by omega)
       have w6:IntKind.i64.wrap ((n:Int) * 10+b.toNat)=(n:Int) * 10+b.toNat:=w64 (by omega)
       have w7:IntKind.i64.wrap ((n:Int) * 10+b.toNat - 48)=((n * 10+(b.toNat - 48):Nat):Int):=by rw [w64 (by omega)];omega
       by_cases hi0:i=0
       ·subst hi0
        have hix0:pev .indexS [.sc (.string s),.sc (.int .i64 0)]=some (.sc (.int .u8 b.toNat)):=hix
        have w3:IntKind.i64.wrap 1=1:=rfl
        simp [-calmR_some,f88_l0,h4,h6,h7,hc',hc,hix0,q1,q2,q3,w4,w5,w6,w7]
        refine ih (0+1,n * 10+(b.toNat - 48)) _ _ _ (by simp only;omega) (fun r h=>by rw [hdrop,e1];exact h) ?_
        refine ⟨by simp only;omega,by simp only;omega,by simp [h4],by simp,by simp [w3]⟩
       ·have hi0':¬(i:Int)=0:=by omega
        have hdf:decide (i=0)=false:=by simp [hi0]
        rw [hdf]at ih e1
        simp [-calmR_some,f88_l0,h4,h6,h7,hc',hi0,hix,q1,q2,w4,w5,w6,w7,w2]
        refine ih (i+1,n * 10+(b.toNat - 48)) _ _ _ (by simp only;omega) (fun r h=>by rw [hdrop,e1];exact h) ?_
        refine ⟨by simp only;omega,by simp only;omega,by simp [h4],by simp,by simp⟩
      ·have e1:scan (decide (i=0)) n (b::s.data.toList.drop (i+1))=none:=by
        rw [scan,if_neg (by simpa using hm),if_neg hd]
       rw [hdrop,e1]
       unfold isDig at hd
       have q:(b.toNat:Int) < 48∨¬((b.toNat:Int) < 48)∧(57:Int) < b.toNat:=by omega
       have q3:i=0→¬((b.toNat:Int)=45):=by
        intro h0 h1
        apply hm;refine ⟨h0,UInt8.toNat_inj.1 ?_⟩
        show b.toNat=45;omega
       by_cases hi0:i=0
       ·subst hi0
        have q3:=q3 rfl
        have hix0:pev .indexS [.sc (.string s),.sc (.int .i64 0)]=some (.sc (.int .u8 b.toNat)):=hix
        rcases q with q|⟨q1,q2⟩
        ·simp [-calmR_some,f88_l0,h4,h6,h7,hc',hc,hix0,q,q3]
         rw [hkk]
         simp [endN,optI]
        ·simp [-calmR_some,f88_l0,h4,h6,h7,hc',hc,hix0,q1,q2,q3]
         rw [hkk]
         simp [endN,optI]
       ·rcases q with q|⟨q1,q2⟩
        ·simp [-calmR_some,f88_l0,h4,h6,h7,hc',hi0,hix,q]
         rw [hkk]
         simp [endN,optI]
        ·simp [-calmR_some,f88_l0,h4,h6,h7,hc',hi0,hix,q1,q2]
         rw [hkk]
         simp [endN,optI]
    ·have hi':i=s.size:=by omega
     subst hi'
     have hnil:s.data.toList.drop s.size=[]:=List.drop_eq_nil_of_le (by omega)
     rw [hnil]
     have e1:scan (decide (s.size=0)) n []=some n:=rfl
     rw [e1]
     have hpos:0 < s.size:=by
      apply Classical.byContradiction;intro hn
      exact h0 (ByteArray.size_eq_zero_iff.1 (by omega))
     obtain ⟨b,hb⟩:∃b,s.data.toList[0]?=some b:=⟨s.data.toList[0],by simp [hsl,hpos]⟩
     have hix0:pev .indexS [.sc (.string s),.i 0]=some (.sc (.int .u8 b.toNat)):=idxS hb
     have hb':s.data[0]?=some b:=by simpa using hb
     have hpow:10 ^ s.size≤10 ^ 18:=Nat.pow_le_pow_right (by omega) (by omega)
     unfold endN
     rw [hb']
     simp [-calmR_some,f88_l0,h4,h6,h7]
     rw [hkk]
     by_cases h45:b=45
     ·subst h45
      have w4:IntKind.i64.wrap (-(n:Int))= -(n:Int):=w64 (by omega)
      have w4':IntKind.i64.wrap (0 - (n:Int))= -(n:Int):=by rw [w64 (by omega)];omega
      have e139:=fun S=>@s139 S (-(n:Int)) (by omega) (by omega)
      have hix1:pev .indexS [.sc (.string s),.i 0]=some (.sc (.int .u8 45)):=hix0
      by_cases he:itoaB (-(n:Int))=s
      ·simp [h4,h6,hix1,w4,w4',e139,he,optI]
      ·simp [h4,h6,hix1,w4,w4',e139,he,optI]
     ·have h45':¬((b.toNat:Int)=45):=by
       intro h;apply h45;apply UInt8.toNat_inj.1;show b.toNat=45;omega
      have e139:=fun S=>@s139 S (n:Int) (by omega) (by omega)
      by_cases he:itoaB (n:Int)=s
      ·simp [h4,h6,hix0,h45,h45',e139,he,optI]
      ·simp [h4,h6,hix0,h45,h45',e139,he,optI]
   ·rw [if_neg h18]
    have h18':(18:Int) < s.size:=by omega
    simp [f88,f88b,s86,hw,optV,optI,h0,h18']
end
theorem sRow_snoc {ws:List ByteArray} {s:ByteArray}:sRow (ws++[s])=sRow ws++[[.sc (.string s)]]:=by simp [sRow]
section
variable {S:AS}
end
def askB:ByteArray:=⟨#[97,115,45,114,101,113]⟩
def errB:ByteArray:=⟨#[101,114,114,111,114]⟩
def bodyB:ByteArray:=⟨#[98,111,100,121]⟩
def tAsk (a b c:T):T:=tPack askB [a,b,c]
def tRefuse (n:Int):T:=tPack errB [tNum n]
def tNone:T:=tPack noneB []
def tBody (s r:ByteArray):T:=tPack bodyB [tWord s,tWord r]
theorem unpT_len {tag:ByteArray} {n:Nat} {t:T} {l:List T} (h:unpT tag n t=some l):l.length=n∧∀k∈l,k∈t.kids:=by
 unfold unpT at h
 split at h
 ·rename_i hc
  cases h
  refine ⟨by rw [List.length_tail];omega,fun k hk=>List.mem_of_mem_tail hk⟩
 ·cases h
section
variable {S:AS}
theorem isTs3 {a b c:T} {f:Bool}:IsTs S (.lst 3 f [a.cells,b.cells,c.cells]) [a,b,c]:=isTs_lst (l:=[a,b,c])
theorem isTs2 {a b:T} {f:Bool}:IsTs S (.lst 3 f [a.cells,b.cells]) [a,b]:=isTs_lst (l:=[a,b])
theorem isTs1 {a:T} {f:Bool}:IsTs S (.lst 3 f [a.cells]) [a]:=isTs_lst (l:=[a])
theorem p62_0 {s:ByteArray} {z:Nat} {f:Bool}:call 62 [.sc (.string s),.lst z f []] S=some (.agg (tPack s []).cells,S):=p62 isTs_nil (by simp)
theorem p62_1 {s:ByteArray} {f:Bool} {a:T}:call 62 [.sc (.string s),.lst 3 f [a.cells]] S=some (.agg (tPack s [a]).cells,S):=p62 isTs1 (by simp)
theorem p62_2 {s:ByteArray} {f:Bool} {a b:T}:call 62 [.sc (.string s),.lst 3 f [a.cells,b.cells]] S=some (.agg (tPack s [a,b]).cells,S):=p62 isTs2 (by simp)
theorem p62_3 {s:ByteArray} {f:Bool} {a b c:T}:call 62 [.sc (.string s),.lst 3 f [a.cells,b.cells,c.cells]] S=some (.agg (tPack s [a,b,c]).cells,S):=p62 isTs3 (by simp)
theorem p63_0 {s:ByteArray} {z:Nat} {f:Bool}:call 63 [.sc (.string s),.lst z f []] S=some (.agg (tPack s []).cells,S):=p63 isTs_nil (by simp)
theorem p63_1 {s:ByteArray} {f:Bool} {a:T}:call 63 [.sc (.string s),.lst 3 f [a.cells]] S=some (.agg (tPack s [a]).cells,S):=p63 isTs1 (by simp)
theorem p63_2 {s:ByteArray} {f:Bool} {a b:T}:call 63 [.sc (.string s),.lst 3 f [a.cells,b.cells]] S=some (.agg (tPack s [a,b]).cells,S):=p63 isTs2 (by simp)
theorem p63_3 {s:ByteArray} {f:Bool} {a b c:T}:call 63 [.sc (.string s),.lst 3 f [a.cells,b.cells,c.cells]] S=some (.agg (tPack s [a,b,c]).cells,S):=p63 isTs3 (by simp)
attribute [simp] p62_0 p62_1 p62_2 p62_3 p63_0 p63_1 p63_2 p63_3
@[simp] theorem s70 {a b c:T}:call 70 [.agg a.cells,.agg b.cells,.agg c.cells] S=some (.agg (tAsk a b c).cells,S):=by
 rw [call_calm a70 rfl (by simp) rfl]
 simp [f70,f70b,tAsk,askB]
@[simp] theorem s71 {a b c:T}:call 71 [.agg a.cells,.agg b.cells,.agg c.cells] S=some (.agg (tAsk a b c).cells,S):=by
 rw [call_calm a71 rfl (by simp) rfl]
 simp [f71,f71b,tAsk,askB]
theorem s73 {n:Int} (h:inI n) (h':n≠ -9223372036854775808):call 73 [.sc (.int .i64 n)] S=some (.agg (tRefuse n).cells,S):=by
 unfold inI at h
 rw [call_calm a73 rfl (by simp) rfl]
 simp [f73,f73b,@s67 _ n (by omega) h.2,tRefuse,errB]
@[simp] theorem s74:call 74 [] S=some (.agg tNone.cells,S):=by
 rw [call_calm a74 rfl rfl rfl]
 simp [f74,f74b,tNone,noneB]
@[simp] theorem s75:call 75 [] S=some (.agg tNone.cells,S):=by
 rw [call_calm a75 rfl rfl rfl]
 simp [f75,f75b,tNone,noneB]
theorem s76 {s r:ByteArray} (hs:s.size≤4611686018427387904) (hr:r.size≤4611686018427387904):call 76 [.sc (.string s),.sc (.string r)] S=some (.agg (tBody s r).cells,S):=by
 rw [call_calm a76 rfl (by simp) rfl]
 simp [f76,f76b,s64 hs,s64 hr,tBody,bodyB]
theorem s77 {s r:ByteArray} (hs:s.size≤4611686018427387904) (hr:r.size≤4611686018427387904):call 77 [.sc (.string s),.sc (.string r)] S=some (.agg (tBody s r).cells,S):=by
 rw [call_calm a77 rfl (by simp) rfl]
 simp [f77,f77b,s65 s hs,s65 r hr,tBody,bodyB]
def bodyL:List T→Option (ByteArray×ByteArray)
 |[a,b]=>(wordOf a).bind fun x=>(wordOf b).bind fun y=>if x=⟨#[]⟩∨y=⟨#[]⟩ then none else some (x,y)
 |_=>none
theorem bodyL_two {a b:T}:bodyL [a,b]=(wordOf a).bind fun x=>(wordOf b).bind fun y=>if x=⟨#[]⟩∨y=⟨#[]⟩ then none else some (x,y):=rfl
def bodyOf (t:T):Option (ByteArray×ByteArray):=(unpT bodyB 2 t).bind bodyL
def optB (o:Option (ByteArray×ByteArray)):AV:=.tup [.sc (.string ((o.map Prod.fst).getD ⟨#[]⟩)),.sc (.string ((o.map Prod.snd).getD ⟨#[]⟩)),.sc (.bool o.isSome)]
theorem lstT_2a {a b:T}:pev (.iaddr 3) [lstT [a,b],.i 0]=some (.iptr a.cells):=lstT_at (i:=0) rfl
theorem lstT_2b {a b:T}:pev (.iaddr 3) [lstT [a,b],.i 1]=some (.iptr b.cells):=lstT_at (i:=1) rfl
theorem lstT_1a {a:T}:pev (.iaddr 3) [lstT [a],.i 0]=some (.iptr a.cells):=lstT_at (i:=0) rfl
theorem lstT_3a {a b c:T}:pev (.iaddr 3) [lstT [a,b,c],.i 0]=some (.iptr a.cells):=lstT_at (i:=0) rfl
theorem lstT_3b {a b c:T}:pev (.iaddr 3) [lstT [a,b,c],.i 1]=some (.iptr b.cells):=lstT_at (i:=1) rfl
theorem lstT_3c {a b c:T}:pev (.iaddr 3) [lstT [a,b,c],.i 2]=some (.iptr c.cells):=lstT_at (i:=2) rfl
attribute [simp] lstT_2a lstT_2b lstT_1a lstT_3a lstT_3b lstT_3c
theorem s93 {t:T}:call 93 [.agg t.cells] S=some (optB (bodyOf t),S):=by
 rw [call_calm a93 rfl (by simp) rfl]
 have e:=fun S=>@s79 S bodyB 2 t (by omega)
 simp only [bodyB]at e
 unfold bodyOf
 cases hu:unpT bodyB 2 t with
 |none=>
  simp only [bodyB]at hu
  simp [f93,f93b,e,hu,optL,optB]
 |some l=>
  obtain ⟨hl,_⟩:=unpT_len (n:=2) hu
  match l,hl with
  |[a,b],_=>
   simp only [bodyB]at hu
   simp only [Option.bind_some,bodyL]
   cases ha:wordOf a with
   |none=>simp [f93,f93b,e,hu,optL,optB,s86,ha,optV]
   |some x=>
    cases hb:wordOf b with
    |none=>simp [f93,f93b,e,hu,optL,optB,s86,ha,hb,optV]
    |some y=>
     by_cases hx:x=⟨#[]⟩
     ·simp [f93,f93b,e,hu,optL,optB,s86,ha,hb,optV,hx]
     ·by_cases hy:y=⟨#[]⟩
      ·simp [f93,f93b,e,hu,optL,optB,s86,ha,hb,optV,hx,hy]
      ·simp [f93,f93b,e,hu,optL,optB,s86,ha,hb,optV,hx,hy]
def tZ:T:=.mk 0 ⟨#[]⟩ []
def askL:List T→Option (T×T×T)
 |[a,b,c]=>some (a,b,c)
 |_=>none
def askOf (t:T):Option (T×T×T):=(unpT askB 3 t).bind askL
def optA (o:Option (T×T×T)):AV:=.tup [.agg ((o.map Prod.fst).getD tZ).cells,.agg ((o.map fun x=>x.2.1).getD tZ).cells,.agg ((o.map fun x=>x.2.2).getD tZ).cells,.sc (.bool o.isSome)]
theorem s95 {t:T}:call 95 [.agg t.cells] S=some (optA (askOf t),S):=by
 rw [call_calm a95 rfl (by simp) rfl]
 have e:=fun S=>@s79 S askB 3 t (by omega)
 simp only [askB]at e
 unfold askOf
 cases hu:unpT askB 3 t with
 |none=>
  simp only [askB]at hu
  simp [f95,f95b,e,hu,optL,optA,tZ,T.cells,rowsT]
  rfl
 |some l=>
  obtain ⟨hl,_⟩:=unpT_len (n:=3) hu
  match l,hl with
  |[a,b,c],_=>
   simp only [askB]at hu
   simp only [Option.bind_some,askL]
   simp [f95,f95b,e,hu,optL,optA]
noncomputable def refL:List T→Option Int
 |[a]=>(numOf a).bind fun n=>if n < 1 then none else some n
 |_=>none
noncomputable def refuseOf (t:T):Option Int:=(unpT errB 1 t).bind refL
theorem s96 {t:T} (hf:t.kids.length≤4611686018427387904) (hn:∀k∈t.kids,k.name.size≤281474976710656):call 96 [.agg t.cells] S=some (optI (refuseOf t),S):=by
 rw [call_calm a96 rfl (by simp) rfl]
 have e:=fun S=>@s78 S errB 1 t hf
 simp only [errB]at e
 unfold refuseOf
 cases hu:unpT errB 1 t with
 |none=>
  simp only [errB]at hu
  simp [f96,f96b,e,hu,optL,optI]
 |some l=>
  obtain ⟨hl,hm⟩:=unpT_len (n:=1) hu
  match l,hl with
  |[a],_=>
   simp only [errB]at hu
   simp only [Option.bind_some,refL]
   have e2:=fun S=>@s87 S a (hn a (hm a (by simp)))
   cases ha:numOf a with
   |none=>simp [f96,f96b,e,hu,optL,optI,e2,ha]
   |some n=>
    by_cases h1:n < 1
    ·simp [f96,f96b,e,hu,optL,optI,e2,ha,h1]
    ·simp [f96,f96b,e,hu,optL,optI,e2,ha,h1]
theorem s97 {t:T}:call 97 [.agg t.cells] S=some (optI (refuseOf t),S):=by
 rw [call_calm a97 rfl (by simp) rfl]
 have e:=fun S=>@s79 S errB 1 t (by omega)
 simp only [errB]at e
 unfold refuseOf
 cases hu:unpT errB 1 t with
 |none=>
  simp only [errB]at hu
  simp [f97,f97b,e,hu,optL,optI]
 |some l=>
  obtain ⟨hl,hm⟩:=unpT_len (n:=1) hu
  match l,hl with
  |[a],_=>
   simp only [errB]at hu
   simp only [Option.bind_some,refL]
   have e2:=fun S=>@s88 S a
   cases ha:numOf a with
   |none=>simp [f97,f97b,e,hu,optL,optI,e2,ha]
   |some n=>
    by_cases h1:n < 1
    ·simp [f97,f97b,e,hu,optL,optI,e2,ha,h1]
    ·simp [f97,f97b,e,hu,optL,optI,e2,ha,h1]
end
instance (n:Int):Decidable (inI n):=by unfold inI;infer_instance
theorem wordOf_word {s:ByteArray}:wordOf (tWord s)=some s:=by
 unfold wordOf tWord
 rw [if_pos (by rfl)]
 exact cutB_app
theorem tagT_pack {s:ByteArray} {l:List T}:tagT (tPack s l)=s:=by
 rw [tagT_cons (t:=tPack s l) rfl rfl rfl];rfl
theorem unpT_pack {s:ByteArray} {l:List T} {n:Int} (hs:s≠⟨#[]⟩) (hn:(l.length:Int)=n):unpT s n (tPack s l)=some l:=by
 unfold unpT
 rw [if_pos ⟨hs,tagT_pack,by show ((l.length+1:Nat):Int)=n+1;omega⟩]
 rfl
theorem unpT_tag {s r:ByteArray} {l:List T} {n:Int} (h:r≠s):unpT r n (tPack s l)=none:=by
 unfold unpT
 rw [if_neg];rintro ⟨_,h2,_⟩;rw [tagT_pack]at h2;exact h h2.symm
theorem numOf_num {n:Int} (h:inI n) (h18:(itoaB n).size≤18):numOf (tNum n)=some n:=by
 unfold numOf tNum
 rw [wordOf_word]
 show (if (itoaB n).size≤18 then numS (itoaB n) else none)=_
 rw [if_pos h18,numS_itoa h]
theorem isNone_none:isNoneT tNone=true:=by
 unfold isNoneT tNone
 rw [unpT_pack (by decide) (by rfl)];rfl
section
variable {S:AS}
theorem i3:itoaB (-3)=⟨#[45,51]⟩:=by
 unfold itoaB Lib.itoa
 rw [if_pos (by decide),show (-3:Int).natAbs=3 from rfl,Lib.decDigits_one (by omega)]
 rfl
theorem i5:itoaB 5=⟨#[53]⟩:=by
 unfold itoaB Lib.itoa
 rw [if_neg (by decide),show (5:Int).toNat=5 from rfl,Lib.decDigits_one (by omega)]
 rfl
end
end Abs
